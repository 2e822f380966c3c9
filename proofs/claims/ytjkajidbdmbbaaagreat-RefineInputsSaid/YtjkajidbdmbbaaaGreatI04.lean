/- Parts. -/
import Derived.Test.YtjkajidbdmbbaaaGreatI03
set_option linter.unusedSimpArgs false
set_option linter.unusedVariables false
set_option maxRecDepth 100000
set_option maxHeartbeats 16000000
namespace Go.Proofs.YtjkajidbdmbbaaaGreat
section
namespace Ref
def sortP (n:Nat)(L:List (Int × Int)):List (Int × Int):=(List.range n).flatMap fun b:Nat=>L.filter fun p=>decide (p.1=(b:Int))
def Apart (L:List (Int × Int)):Prop:=L.Pairwise fun a b=>a.1=b.1->a.1<0
theorem total_append (a b:List (List Ins)):total (a++b)=total a+total b:=by simp[total]
theorem number_next (f:Fn){b:Nat}{l:List Ins}(h:f.blocks[b]?=some l):number f (b+1)=number f b+l.length:=by unfold number;rw[total_take_succ _ _ _ h];omega
theorem total_take_le (bs:List (List Ins)):∀(i j:Nat),i<=j->total (bs.take i)<=total (bs.take j):=by
 intro i j h
 have:bs.take j=bs.take i++(bs.drop i).take (j-i):=by rw[show j=i+(j-i) by omega,List.take_add,show i+(j-i)-i=j-i by omega]
 rw[this,total_append];omega
theorem number_le (f:Fn){b c:Nat}{l:List Ins}(h:f.blocks[b]?=some l)(hc:b<c):number f b+l.length<=number f c:=by have d:=number_next f h;have g:=total_take_le f.blocks (b+1) c (by omega);unfold number at d ⊢;omega
theorem number_count (f:Fn){b:Nat}{l:List Ins}(h:f.blocks[b]?=some l):number f b+l.length<=count f:=by have d:=(sR.1 h).1;unfold count;exact number_le f h d
def start (f:Fn)(o:List Nat):Nat:=f.params.length+(o.map fun b=>(f.blocks.getD b []).length).sum
def numFrom (f:Fn)(v:Int):List Nat->Nat->Int
 | [],_=>-1
 | b::r,n=>if (number f b:Int)<=v/\v<number f b+(f.blocks.getD b []).length then n+(v-number f b) else numFrom f v r (n+(f.blocks.getD b []).length)
def num (f:Fn)(o:List Nat)(v:Int):Int:=if v<f.params.length then v else numFrom f v o f.params.length
def toFrom (b:Int):List Nat->Nat->Int
 | [],_=>-1
 | c::r,k=>if b=c then k else toFrom b r (k+1)
def toOf (o:List Nat)(b:Int):Int:=toFrom b o 0
def phiL (f:Fn)(o:List Nat)(x:Ins):List (Int × Int):=(x.to.zip x.args).map fun p=>(toOf o p.1,num f o p.2)
def renum (f:Fn)(o:List Nat)(x:Ins):Ins :=
 if x.op=28 then ⟨x.op,x.width,x.flags,(sortP f.blocks.length (phiL f o x)).map (·.2),x.imm,(sortP f.blocks.length (phiL f o x)).map (·.1)⟩
 else ⟨x.op,x.width,x.flags,x.args.map (num f o),x.imm,x.to.map (toOf o)⟩
def moved (f:Fn)(o:List Nat):Fn:={f with blocks:=o.map fun b=>(f.blocks.getD b []).map (renum f o)}
theorem toFrom_get:∀(o:List Nat)(k j c:Nat),o[j]?=some c->o.Nodup->toFrom c o k=(k+j:Nat)
 | [],k,j,c,h,_=>by simp at h
 | d::r,k,0,c,h,_=>by
  simp at h;subst h
  simp[toFrom]
 | d::r,k,j+1,c,h,hn=>by
  obtain⟨g,l⟩:=List.nodup_cons.1 hn
  have m:c∈r:=sS (by simpa using h)
  rw[toFrom,tC (fun e=>g (by have e':c=d:=by omega
                             exact e' ▸ m)),toFrom_get r (k+1) j c (by simpa using h) l]
  omega
theorem toOf_get {o:List Nat}(hn:o.Nodup){k b:Nat}(h:o[k]?=some b):toOf o b=k:=by unfold toOf;rw[toFrom_get o 0 k b h hn];simp
theorem getD_some {f:Fn}{b:Nat}{l:List Ins}(h:f.blocks[b]?=some l):f.blocks.getD b []=l:=by rw[sU,h];rfl
structure Ord (f:Fn)(o:List Nat):Prop where
 nodup:o.Nodup
 lt:∀b∈o,b<f.blocks.length
 first:o[0]?=some 0
theorem whereFrom_at:∀(bs:List (List Ins))(b n j i:Nat)(l:List Ins),bs[j]?=some l->i<l.length->whereFrom ((n+total (bs.take j)+i:Nat):Int) bs b n=(((b+j:Nat):Int),(i:Int))
 | [],b,n,j,i,l,h,_=>by simp at h
 | c::r,b,n,0,i,l,h,hi=>by
  simp at h;subst h
  simp only[List.take_zero,total,List.map_nil,List.sum_nil,Nat.add_zero]
  rw[whereFrom,tB (by omega)]
  simp;omega
 | c::r,b,n,j+1,i,l,h,hi=>by
  rw[tJ,total_cons]
  rw[whereFrom,tC (by omega),show n+(c.length+total (r.take j))+i=(n+c.length)+total (r.take j)+i by omega,whereFrom_at r (b+1) (n+c.length) j i l (by simpa using h) hi]
  rw[show b+1+j=b+(j+1) by omega]
theorem whereIs_at (f:Fn){b i:Nat}{l:List Ins}(h:f.blocks[b]?=some l)(hi:i<l.length):whereIs f ((number f b+i:Nat):Int)=((b:Int),(i:Int)):=by have:=whereFrom_at f.blocks 0 f.params.length b i l h hi;rw[Nat.zero_add]at this;exact this
theorem kind_at (f:Fn){b i:Nat}{l:List Ins}{x:Ins}(h:f.blocks[b]?=some l)(hx:l[i]?=some x):kind f ((number f b+i:Nat):Int)=x.width:=by have d:=(sR.1 hx).1;have g:=number_count f h;unfold kind;rw[tC (by omega),tC (by unfold number;omega),whereIs_at f h d];unfold insAt?;simp only[tc,h,Option.bind_some,hx,Option.map_some,Option.getD_some]
def Kept (f:Fn)(o:List Nat)(v:Int):Prop:=(0<=v/\v<f.params.length)\/∃(k b i:Nat)(l:List Ins)(x:Ins),o[k]?=some b/\f.blocks[b]?=some l/\l[i]?=some x/\v=((number f b+i:Nat):Int)
end Ref
end
section
namespace Ref
theorem phisFrom_iff (g:List (List Int)):∀(bs:List (List Ins))(b:Nat),phisFrom g bs b=true↔∀j l,bs[j]?=some l->∀x∈l,x.op=28->x.to=before g ((b+j:Nat):Int)
 | [],b=>by simp[phisFrom]
 | l::r,b=>by
  unfold phisFrom
  rw[tD,phisFrom_iff g r (b+1),tu]
  constructor
  ·rintro⟨t,u⟩ j q p x m d
   cases j with
   | zero =>
    simp at p;subst p
    have:=t x m
    rw[sameInts_eq]at this;simpa[d] using this
   | succ j =>
    have:=u j q (by simpa using p) x m d;rw[this];congr 1;omega
  ·intro h;refine⟨fun x m=>?_,fun j q p x m d=>?_⟩
   ·rw[sameInts_eq];by_cases d:x.op=28
    ·have:=h 0 l rfl x m d;simp[d,this]
    ·simp[d]
   ·have:=h (j+1) q (by simpa using p) x m d;rw[this];congr 1;omega
theorem argsFrom_iff (f:Fn)(g:List (List Int))(inn:List Bool)(b i:Nat)(x:Ins):∀(vs:List Int)(k:Nat),argsFrom f g inn b i x vs k=true↔∀j v,vs[j]?=some v->argOk f g inn b i x v (x.to.getD (k+j) 0)=true
 | [],k=>by simp[argsFrom]
 | v::r,k=>by
  unfold argsFrom
  rw[tD,argsFrom_iff f g inn b i x r (k+1)]
  constructor
  ·rintro⟨l,m⟩ j u d
   cases j with
   | zero=>simp at d;subst d;exact l
   | succ j =>
    have:=m j u (by simpa using d)
    rwa [show k+1+j=k+(j+1) by omega]at this
  ·intro h;refine⟨h 0 v rfl,fun j u d=>?_⟩;have:=h (j+1) u (by simpa using d)
   rwa [show k+(j+1)=k+1+j by omega]at this
theorem insFrom_iff (f:Fn)(g:List (List Int))(inn:List Bool)(b:Nat):∀(l:List Ins)(i:Nat),insFrom f g inn b l i=true↔∀j x,l[j]?=some x->argsFrom f g inn b (i+j) x x.args 0=true
 | [],i=>by simp[insFrom]
 | y::r,i=>by
  unfold insFrom
  rw[tD,insFrom_iff f g inn b r (i+1)]
  constructor
  ·rintro⟨m,p⟩ j x d
   cases j with
   | zero=>simp at d;subst d;exact m
   | succ j =>
    have:=p j x (by simpa using d)
    rwa [show i+1+j=i+(j+1) by omega]at this
  ·intro h;refine⟨h 0 y rfl,fun j x d=>?_⟩;have:=h (j+1) x (by simpa using d)
   rwa [show i+(j+1)=i+1+j by omega]at this
theorem blksFrom_iff (f:Fn)(g:List (List Int))(inn:List Bool):∀(bs:List (List Ins))(b:Nat),blksFrom f g inn bs b=true↔∀j l,bs[j]?=some l->inn.getD (b+j) false=true->insFrom f g inn (b+j) l 0=true
 | [],b=>by simp[blksFrom]
 | l::r,b=>by
  unfold blksFrom
  rw[tD,blksFrom_iff f g inn r (b+1)]
  constructor
  ·rintro⟨q,t⟩ j p m d
   cases j with
   | zero =>
    simp at m;subst m
    rw[Nat.add_zero]at d ⊢
    rw[d]at q
    simpa using q
   | succ j =>
    have:=t j p (by simpa using m)
    rw[show b+1+j=b+(j+1) by omega]at this;exact this d
  ·intro h;refine⟨?_,fun j p m d=>?_⟩
   ·have:=h 0 l rfl;rw[Nat.add_zero]at this
    cases hb:inn.getD b false with
    | false=>rfl
    | true=>simpa using this hb
   ·have:=h (j+1) p (by simpa using m);rw[show b+(j+1)=b+1+j by omega]at this;exact this d
structure Val (f:Fn):Prop where
 size:f.params.length<=3/\f.slots.length<=2/\1<=f.blocks.length/\f.blocks.length<=10/\total f.blocks<=40
 ret:0<=f.ret/\f.ret<=32
 head:f.params.all isWidth=true/\f.slots.all isSlot=true
 arg:∀l∈f.blocks,∀x∈l,argument f x=true
 laid:∀l∈f.blocks,laid l=true
 entry:before (graph f) 0=[]
 phi:∀(b:Nat)(l:List Ins),f.blocks[b]?=some l->∀x∈l,x.op=28->x.to=before (graph f) (b:Int)
 typ:∀l∈f.blocks,∀x∈l,typed f x=true
 st:∀(b:Nat)(l:List Ins),f.blocks[b]?=some l->(reached (graph f) (-1)).getD b false=true->∀(i:Nat) x,l[i]?=some x->∀(k:Nat) v,x.args[k]?=some v->argOk f (graph f) (reached (graph f) (-1)) b i x v (x.to.getD k 0)=true
theorem rules_iff (f:Fn):rules f=true↔(∀l∈f.blocks,laid l=true)/\before (graph f) 0=[]/\(∀(b:Nat)(l:List Ins),f.blocks[b]?=some l->∀x∈l,x.op=28->x.to=before (graph f) (b:Int)):=by unfold rules;rw[tD,tD,phisFrom_iff,tu,List.isEmpty_iff,and_assoc];simp only[Nat.zero_add]
theorem stated_iff (f:Fn):stated f=true↔∀(b:Nat)(l:List Ins),f.blocks[b]?=some l->(reached (graph f) (-1)).getD b false=true->∀(i:Nat) x,l[i]?=some x->∀(k:Nat) v,x.args[k]?=some v->argOk f (graph f) (reached (graph f) (-1)) b i x v (x.to.getD k 0)=true:=by unfold stated;rw[blksFrom_iff];simp only[Nat.zero_add,insFrom_iff,argsFrom_iff]
theorem all_all {f:Fn}{p:Ins->Bool}:(f.blocks.all fun l=>l.all p)=true↔∀l∈f.blocks,∀x∈l,p x=true:=by simp only[tu]
theorem val_iff (f:Fn):validate f=0↔Val f:=by
 have A:validate f=0↔¬(3<f.params.length\/2<f.slots.length\/f.blocks.length<1\/10<f.blocks.length)/\¬40<total f.blocks/\¬(f.ret<0\/32<f.ret)/\¬f.params.all isWidth=false/\¬f.slots.all isSlot=false /\
   ¬(f.blocks.all (fun l=>l.all (argument f))=false)/\¬rules f=false/\¬(f.blocks.all (fun l=>l.all (typed f))=false)/\¬stated f=false:=by
  unfold validate;by_cases t:3<f.params.length\/2<f.slots.length\/f.blocks.length<1\/10<f.blocks.length
  ·rw[tB t];exact⟨fun h=>by omega,fun h=>absurd t h.1⟩
  rw[tC t];by_cases z:40<total f.blocks
  ·rw[tB z];exact⟨fun h=>by omega,fun h=>absurd z h.2.1⟩
  rw[tC z];by_cases u:f.ret<0\/32<f.ret
  ·rw[tB u];exact⟨fun h=>by omega,fun h=>absurd u h.2.2.1⟩
  rw[tC u];by_cases d:f.params.all isWidth=false
  ·rw[tB d];exact⟨fun h=>by omega,fun h=>absurd d h.2.2.2.1⟩
  rw[tC d];by_cases y:f.slots.all isSlot=false
  ·rw[tB y];exact⟨fun h=>by omega,fun h=>absurd y h.2.2.2.2.1⟩
  rw[tC y];by_cases g:f.blocks.all (fun l=>l.all (argument f))=false
  ·rw[tB g];exact⟨fun h=>by omega,fun h=>absurd g h.2.2.2.2.2.1⟩
  rw[tC g];by_cases j:rules f=false
  ·rw[tB j];exact⟨fun h=>by omega,fun h=>absurd j h.2.2.2.2.2.2.1⟩
  rw[tC j];by_cases m:f.blocks.all (fun l=>l.all (typed f))=false
  ·rw[tB m];exact⟨fun h=>by omega,fun h=>absurd m h.2.2.2.2.2.2.2.1⟩
  rw[tC m];by_cases p:stated f=false
  ·rw[tB p];exact⟨fun h=>by omega,fun h=>absurd p h.2.2.2.2.2.2.2.2⟩
  rw[tC p];exact⟨fun _=>⟨t,z,u,d,y,g,j,m,p⟩,fun _=>rfl⟩
 rw[A];simp only[Bool.not_eq_false,all_all,rules_iff,stated_iff];constructor
 ·rintro⟨t,z,u,d,y,g,⟨j,m,p⟩,q,r⟩;exact⟨⟨by omega,by omega,by omega,by omega,by omega⟩,⟨by omega,by omega⟩,⟨d,y⟩,g,j,m,p,q,r⟩
 ·rintro⟨t,u,d,g,j,m,p,q,r⟩;exact⟨by omega,by omega,by omega,d.1,d.2,g,⟨j,m,p⟩,q,r⟩
theorem has_iff (l:List Int)(n:Int):has l n=true↔n∈l:=by
 unfold has;rw[tP];constructor
 ·rintro⟨z,d,e⟩;simp at e;subst e;exact d
 ·intro h;exact⟨n,h,by simp⟩
theorem mem_beforeFrom (v:Int):∀(g:List (List Int))(b:Nat)(z:Int),z∈beforeFrom v g b↔∃j l,g[j]?=some l/\v∈l/\z=((b+j:Nat):Int)
 | [],b,z=>by simp[beforeFrom]
 | l::r,b,z=>by
  have ih:=mem_beforeFrom v r (b+1) z
  have m:(∃j d,r[j]?=some d/\v∈d/\z=((b+1+j:Nat):Int))↔∃j d,(l::r)[j+1]?=some d/\v∈d/\z=((b+(j+1):Nat):Int):=by simp only[sV,show ∀j,b+1+j=b+(j+1) from fun j=>by omega]
  rw[beforeFrom];constructor
  ·intro h;split at h
   ·next hh =>
    rcases List.mem_cons.1 h with rfl|h
    ·exact⟨0,l,rfl,(has_iff _ _).1 hh,by simp⟩
    ·obtain⟨j,d,q⟩:=m.1 (ih.1 h);exact⟨j+1,d,q⟩
   ·obtain⟨j,d,q⟩:=m.1 (ih.1 h);exact⟨j+1,d,q⟩
  ·rintro⟨j,d,p,t,u⟩
   cases j with
   | zero =>
    simp at p;subst p;rw[tB ((has_iff _ _).2 t)];exact List.mem_cons.2 (.inl (by simpa using u))
   | succ j =>
    have:=ih.2 (m.2 ⟨j,d,p,t,u⟩);split
    ·exact List.mem_cons_of_mem _ this
    ·exact this
theorem asc_beforeFrom (v:Int):∀(g:List (List Int))(b:Nat),(beforeFrom v g b).Pairwise (fun a c=>a<c)
 | [],b=>by simp[beforeFrom]
 | l::r,b=>by
  rw[beforeFrom]
  split
  ·rw[List.pairwise_cons]
   refine⟨fun z d=>?_,asc_beforeFrom v r (b+1)⟩
   obtain⟨j,m,-,-,e⟩:=(mem_beforeFrom v r (b+1) z).1 d
   omega
  ·exact asc_beforeFrom v r (b+1)
theorem mem_before {g:List (List Int)}{v z:Int}:z∈before g v↔∃j l,g[j]?=some l/\v∈l/\z=(j:Nat):=by unfold before;rw[mem_beforeFrom];simp only[Nat.zero_add]
theorem asc_before (g:List (List Int))(v:Int):(before g v).Pairwise (fun a c=>a<c):=asc_beforeFrom v g 0
theorem graph_at (f:Fn){b:Nat}{l:List Ins}(h:f.blocks[b]?=some l):(graph f)[b]?=some ((l.getLast?.map (·.to)).getD []):=by unfold graph;rw[td,h];rfl
theorem laid_last:∀(l:List Ins)(p:Bool),l≠[]->laidFrom l p=true->∃x,l.getLast?=some x/\isLast x.op=true
 | [],_,h,_=>absurd rfl h
 | [x],p,_,h=>by
  simp[laidFrom]at h
  exact⟨x,rfl,h.1⟩
 | x::y::r,p,_,h=>by
  rw[laidFrom]at h
  simp only[tD]at h
  obtain⟨z,g,d⟩:=laid_last (y::r) _ (by simp) h.2
  exact⟨z,by rw[List.getLast?_cons_cons];exact g,d⟩
theorem last_of {l:List Ins}(h:laid l=true):∃x,l.getLast?=some x/\isLast x.op=true/\x∈l:=by unfold laid at h;rw[tD]at h;obtain⟨x,d,g⟩:=laid_last l true (by intro e;subst e;simp at h) h.2;exact⟨x,d,g,List.mem_of_getLast? d⟩
theorem last_not_phi {op:Int}(h:isLast op=true):op≠28:=by unfold isLast at h;simp at h;omega
theorem arg_to {f:Fn}{x:Ins}(h:argument f x=true):∀t∈x.to,0<=t/\t<f.blocks.length:=by unfold argument at h;simp only[tD,tu,decide_eq_true_eq]at h;exact h.1.2
theorem val_graph {f:Fn}(h:Val f){b:Nat}{l:List Ins}(hl:f.blocks[b]?=some l):∃x,x∈l/\x.op≠28/\l.getLast?=some x/\(graph f)[b]?=some x.to:=by obtain⟨x,d,g,j⟩:=last_of (h.laid l (sS hl));refine⟨x,j,last_not_phi g,d,?_⟩;rw[graph_at f hl,d];rfl
theorem graph_len (f:Fn):(graph f).length=f.blocks.length:=by simp[graph]
theorem val_gok {f:Fn}(h:Val f):∀l∈graph f,∀t∈l,0<=t/\t<((graph f).length:Int):=by intro e m t p;obtain⟨b,g⟩:=List.getElem?_of_mem m;have d:=(sR.1 g).1;rw[graph_len]at d ⊢;obtain⟨x,q,-,-,j⟩:=val_graph h (sQ d);rw[g]at j;cases j;exact arg_to (h.arg _ (List.getElem_mem d) x q) t p
end Ref
end
section
namespace Ref
theorem sum_perm_le (w:Nat->Nat):∀(n:Nat)(o:List Nat),o.Nodup->(∀b∈o,b<n)->(o.map w).sum<=((List.range n).map w).sum
 | 0,o,_,h=>by
  cases o with
  | nil=>simp
  | cons a r=>exact absurd (h a (by simp)) (by omega)
 | n+1,o,hn,h=>by
  rw[List.range_succ,List.map_append,List.sum_append]
  by_cases d:n∈o
  ·have l:=List.perm_cons_erase d
   have m:(o.map w).sum=w n+((o.erase n).map w).sum:=by rw[(l.map w).sum_nat];simp
   have:=sum_perm_le w n (o.erase n) (hn.erase n) fun b hb=>by
    have g:=h b (List.mem_of_mem_erase hb);have j:b≠n:=fun e=>by subst e;exact hn.not_mem_erase hb
    omega
   rw[m];simp;omega
  ·have:=sum_perm_le w n o hn fun b hb=>by
    have g:=h b hb;have j:b≠n:=fun e=>d (e ▸ hb);omega
   simp;omega
theorem sum_one (o:List Nat):(o.map fun _=>1).sum=o.length:=by
 induction o with
 | nil=>rfl
 | cons a r ih=>simp;omega
theorem total_range (bs:List (List Ins)):((List.range bs.length).map fun b=>(bs.getD b []).length).sum=total bs:=by
 unfold total;congr 1;apply List.ext_getElem?;intro i;simp only[td];rcases tF i bs.length with h|h
 ·rw[sQ (by simpa using h),sQ h];simp[sU,h]
 ·rw[tp (by simpa using h),tp h];rfl
theorem Ord.short {f:Fn}{o:List Nat}(h:Ord f o):o.length<=f.blocks.length:=by have:=sum_perm_le (fun _=>1) f.blocks.length o h.nodup h.lt;rw[sum_one,sum_one]at this;simpa using this
theorem Ord.total {f:Fn}{o:List Nat}(h:Ord f o):Ref.total (moved f o).blocks<=Ref.total f.blocks:=by
 have:=sum_perm_le (fun b=>(f.blocks.getD b []).length) f.blocks.length o h.nodup h.lt;rw[total_range]at this
 have e:Ref.total (moved f o).blocks=(o.map fun b=>(f.blocks.getD b []).length).sum:=by unfold Ref.total moved;rw[List.map_map];congr 1;exact List.map_congr_left fun b _=>by simp
 rw[e];exact this
structure IsRc (g:List (List Int))(but:Int)(R:Nat->Prop):Prop where
 root:but≠0->R 0
 step:∀(b:Nat)(t:Int),R b->t∈g.getD b []->(t.toNat:Int)≠but->R t.toNat
 least:∀S:Nat->Prop,(but≠0->S 0)->(∀(b:Nat)(t:Int),R b->S b->t∈g.getD b []->(t.toNat:Int)≠but->S t.toNat)->∀i,R i->S i
def rc (g:List (List Int))(but:Int)(i:Nat):Prop:=(reached g but).getD i false=true
def RcAll:Prop:=∀(g:List (List Int))(but:Int),1<=g.length->(∀l∈g,∀t∈l,0<=t/\t<(g.length:Int))->IsRc g but (rc g but)
theorem Val.rc (h:RcAll){f:Fn}(hv:Val f)(but:Int):IsRc (graph f) but (Ref.rc (graph f) but) :=
 h _ _ (by rw[graph_len];exact hv.size.2.2.1) (val_gok hv)
structure Keeps (f:Fn)(o:List Nat):Prop extends Ord f o where
 closed:∀b∈o,∀t∈(graph f).getD b [],t.toNat∈o
 args:∀b∈o,∀l,f.blocks[b]?=some l->∀(i:Nat) x,l[i]?=some x->x.op≠28->∀v∈x.args,Kept f o v
 phiArgs:∀b∈o,∀l,f.blocks[b]?=some l->∀(i:Nat) x,l[i]?=some x->x.op=28->∀(j:Nat) t v,x.to[j]?=some t->x.args[j]?=some v->t.toNat∈o->Kept f o v
 phiSome:∀b∈o,∀l,f.blocks[b]?=some l->∀x∈l,x.op=28->∃t∈x.to,t.toNat∈o
theorem shape_phi (f:Fn){x:Ins}(h:x.op=28):(shape f x).1=-1/\(shape f x).2.1=-1/\((shape f x).2.2=true->0<x.args.length):=by unfold shape;simp[h]
theorem shape_to (f:Fn){x:Ins}(h1:x.op≠28)(h2:x.op≠29)(h3:x.op≠30):(shape f x).2.1=0:=by unfold shape;simp only[tC h1,tC h2,tC h3,apply_ite Prod.snd,apply_ite Prod.fst,ite_self]
theorem counts_iff (s:Int × Int × Bool)(x:Ins):counts s x=true↔(0<=s.1->(x.args.length:Int)=s.1)/\(s.1<0->x.args.length=x.to.length)/\(0<=s.2.1->(x.to.length:Int)=s.2.1):=by
 unfold counts;simp only[Bool.not_eq_true',Bool.or_eq_false_iff,Bool.and_eq_false_iff,decide_eq_false_iff_not,Decidable.not_not];constructor
 ·rintro⟨⟨d,g⟩,j⟩;exact⟨fun h=>d.resolve_left (fun q=>q h),fun h=>g.resolve_left (fun q=>q h),fun h=>j.resolve_left (fun q=>q h)⟩
 ·rintro⟨d,g,j⟩;refine⟨⟨?_,?_⟩,?_⟩
  ·by_cases h:0<=s.1
   ·exact .inr (d h)
   ·exact .inl h
  ·by_cases h:s.1<0
   ·exact .inr (g h)
   ·exact .inl h
  ·by_cases h:0<=s.2.1
   ·exact .inr (j h)
   ·exact .inl h
theorem argument_iff (f:Fn)(x:Ins):argument f x=true↔(shape f x).2.2=true/\counts (shape f x) x=true/\(∀z∈x.to,0<=z/\z<f.blocks.length)/\(x.op=30->x.to.getD 0 0≠x.to.getD 1 0):=by
 unfold argument;simp only[tD,Bool.or_eq_true,tu,decide_eq_true_eq,and_assoc];constructor
 ·rintro⟨d,g,j,l⟩;exact⟨d,g,j,fun e=>l.resolve_left (fun q=>q e)⟩
 ·rintro⟨d,g,j,l⟩;refine⟨d,g,j,?_⟩;by_cases e:x.op=30
  ·exact .inr (l e)
  ·exact .inl e
theorem laid_at:∀(a:List Ins)(p:Bool)(x:Ins)(r:List Ins),laidFrom (a++x::r) p=true->isLast x.op=r.isEmpty
 | [],p,x,r,h=>by
  rw[List.nil_append,laidFrom]at h
  simp only[tD]at h
  simpa using h.1.1
 | y::a,p,x,r,h=>by
  rw[List.cons_append,laidFrom]at h
  simp only[tD]at h
  exact laid_at a _ x r h.2
theorem to_last {f:Fn}(hv:Val f){l:List Ins}(hl:l∈f.blocks){x:Ins}(hx:x∈l)(ho:x.op≠28){t:Int}(ht:t∈x.to):l.getLast?=some x:=by
 have u:=(argument_iff f x).1 (hv.arg l hl x hx)
 have m:x.op=29\/x.op=30:=by
  rcases Decidable.em (x.op=29) with h|h
  ·exact .inl h
  rcases Decidable.em (x.op=30) with d|d
  ·exact .inr d
  have p:=shape_to f ho h d;have q:=((counts_iff _ _).1 u.2.1).2.2 (by omega);rw[p]at q;have:x.to=[]:=tK (by omega);rw[this]at ht;simp at ht
 have j:isLast x.op=true:=by unfold isLast;rcases m with h|h<;>simp[h]
 obtain⟨a,r,rfl⟩:=List.append_of_mem hx;have g:=hv.laid _ hl;unfold laid at g;rw[tD]at g;have:=laid_at a true x r g.2;rw[j]at this;have y:r=[]:=by simpa using this.symm
 subst y;simp
theorem to_graph {f:Fn}(hv:Val f){b:Nat}{l:List Ins}(hl:f.blocks[b]?=some l){x:Ins}(hx:x∈l)(ho:x.op≠28){t:Int}(ht:t∈x.to):t∈(graph f).getD b []:=by have d:=to_last hv (sS hl) hx ho ht;rw[sU,graph_at f hl,d];exact ht
theorem phi_parts {f:Fn}(hv:Val f){b:Nat}{l:List Ins}(hl:f.blocks[b]?=some l){x:Ins}(hx:x∈l)(ho:x.op=28):x.args.length=x.to.length/\0<x.args.length/\x.to.Pairwise (fun a c=>a<c)/\∀t∈x.to,0<=t/\t<f.blocks.length:=by have d:=(argument_iff f x).1 (hv.arg l (sS hl) x hx);obtain⟨j,m,g⟩:=shape_phi f ho;refine⟨((counts_iff _ _).1 d.2.1).2.1 (by omega),g d.1,?_,d.2.2.1⟩;rw[hv.phi b l hl x hx ho];exact asc_before _ _
theorem getD_graph {f:Fn}(hv:Val f){b:Nat}(hb:b<f.blocks.length):(graph f)[b]?=some ((graph f).getD b []):=by rw[sU,sQ (by rw[graph_len];exact hb)];rfl
end Ref
end
section
namespace Ref
theorem typed_iff (f:Fn)(x:Ins):typed f x=true↔(∀v∈x.args,0<=kind f v)/\typedKinds f x (x.args.map (kind f))=true:=by unfold typed;rw[tD,tu];simp only[decide_eq_true_eq]
theorem typedKinds_phi (f:Fn){x:Ins}(h:x.op=28)(k:List Int):typedKinds f x k=k.all fun z=>decide (z=x.width):=by unfold typedKinds;simp[h]
theorem get_uniq {o:List Nat}(hn:o.Nodup){j k c:Nat}(h1:o[j]?=some c)(h2:o[k]?=some c):j=k:=by have d:=toOf_get hn h1;have g:=toOf_get hn h2;omega
end Ref
end
section
namespace Ref
theorem home_of (f:Fn){v:Int}(h0:0<=v)(h1:v<count f):(0<=v/\v<f.params.length)\/∃(b i:Nat)(l:List Ins)(x:Ins),f.blocks[b]?=some l/\l[i]?=some x/\v=((number f b+i:Nat):Int):=by
 rcases (by omega:v<f.params.length\/(f.params.length:Int)<=v) with h|h
 ·exact .inl ⟨h0,h⟩
 ·obtain⟨j,i,l,x,m,d,g,p⟩:=whereIs_some f v h h1;exact .inr ⟨j,i,l,x,d,g,by unfold number;omega⟩
theorem kind_in {f:Fn}{v:Int}(h:0<=kind f v):0<=v/\v<count f:=by
 unfold kind at h;split at h
 ·omega
 ·omega
structure Back (f:Fn)(o p:List Nat):Prop where
 all:∀b,b<f.blocks.length->b∈o
 len:p.length=f.blocks.length
 back:∀b k:Nat,p[b]?=some k->o[k]?=some b
theorem Back.at {f:Fn}{o p:List Nat}(h:Back f o p)(hn:o.Nodup){b k:Nat}(hk:o[k]?=some b)(hb:b<f.blocks.length):p[b]?=some k:=by obtain⟨j,d⟩:∃j,p[b]?=some j:=⟨_,sQ (by rw[h.len];exact hb)⟩;have g:=h.back b _ d;rw[d,get_uniq hn g hk]
def kept (f:Fn):List Nat:=(List.range f.blocks.length).filter fun b=>(reached (graph f) (-1)).getD b false
end Ref
end
section
namespace Ref
end Ref
end
section
namespace Ref
end Ref
end
section
namespace Ref
def Small (s:Int × Int × Bool):Prop:=0<=s.1/\s.1<=3/\0<=s.2.1/\s.2.1<=2
end Ref
end
section
theorem ro:Ref.RcAll:=by
 intro g but r l
 have d:∀i,Ref.rc g but i↔Ir.From g but 0 i:=fun i=>by rw[<-Ir.reached_from r l i];unfold Ref.rc;rw[sU];cases h:(Ref.reached g but)[i]?<;>simp
 refine⟨fun h=>(d 0).2 (.here 0 (by omega)),fun b t hb ht j=>(d _).2 (((d b).1 hb).snoc ht j),fun S h0 hS i hi=>?_⟩
 have p:∀v i,Ir.From g but v i->Ir.From g but 0 v->S v->S i:=by
  intro v i h
  induction h with
  | here v q=>exact fun _ m=>m
  | step v i t q ht hr ih=>exact fun hv m=>ih (hv.snoc ht hr.ne) (hS v t ((d v).2 hv) m ht hr.ne)
 have j:=((d i).1 hi).ne;exact p 0 i ((d i).1 hi) (.here 0 j) (h0 (by omega))
end
section
open Go.RowKit
theorem eD (z:Int):IntKind.u32.wrap z=z%4294967296:=by unfold IntKind.wrap;simp[IntKind.signed,IntKind.bits]
namespace Wd
def sz (n:Int):Int:=2 ^ n.toNat
def sg (n a:Int):Int:=if sz (n-1)<=a then a-sz n else a
def Wid (n:Int):Prop:=1<=n/\n<=32
def Word (n a:Int):Prop:=0<=a/\a<sz n
def widB (n:Int):Bool:=decide (1<=n) && decide (n<=32)
def wordB (n a:Int):Bool:=widB n && decide (a<sz n)
def op (o n a b:Int):Option Int :=
 if o=1 then some ((a+b)%sz n)
 else if o=2 then some ((a-b)%sz n)
 else if o=3 then some ((a*b)%sz n)
 else if o=4 then (if b=0 then none else some (a / b))
 else if o=5 then (if b=0 then none else some (a%b))
 else if o=6 then (if b=0\/(sg n a=-sz (n-1)/\sg n b=-1) then none else some ((sg n a).tdiv (sg n b)%sz n))
 else if o=7 then (if b=0\/(sg n a=-sz (n-1)/\sg n b=-1) then none else some ((sg n a).tmod (sg n b)%sz n))
 else if o=8 then some (bits .and .u32 a b)
 else if o=9 then some (bits .or .u32 a b)
 else if o=10 then some (bits .xor .u32 a b)
 else if n<=b then none
 else if o=11 then some (a*2 ^ b.toNat%sz n)
 else if o=12 then some (a / 2 ^ b.toNat)
 else some (sg n a / 2 ^ b.toNat%sz n)
def brk (o fl n a b:Int):Bool :=
 let u:=fl%2 == 1
 let s:=fl / 2%2 == 1
 let e:=fl / 4%2 == 1
 let x:=sg n a
 let y:=sg n b
 if o=1 then u && decide (sz n<=a+b) || s && (decide (x+y < -sz (n-1)) || decide (sz (n-1)<=x+y))
 else if o=2 then u && decide (a<b) || s && (decide (x-y < -sz (n-1)) || decide (sz (n-1)<=x-y))
 else if o=3 then u && decide (sz n<=a*b) || s && (decide (x*y < -sz (n-1)) || decide (sz (n-1)<=x*y))
 else if o=11 then u && decide (sz n<=a*2 ^ b.toNat) || s && (decide (x*2 ^ b.toNat < -sz (n-1)) || decide (sz (n-1)<=x*2 ^ b.toNat))
 else if o=4 then e && decide (a%b≠0)
 else if o=6 then e && decide (x.tmod y≠0)
 else if o=12\/o=13 then e && decide (a%2 ^ b.toNat≠0)
 else false
def broken (o fl n a b:Int):Bool:=(op o n a b).isSome && brk o fl n a b
def cmpN (p a b:Int):Bool :=
 if p=0 then a == b else if p=1 then a != b
 else if p=2\/p=6 then decide (a<b) else if p=3\/p=7 then decide (a<=b)
 else if p=4\/p=8 then decide (b<a) else decide (b<=a)
def cmp (p n a b:Int):Bool:=if 6<=p then cmpN p (sg n a) (sg n b) else cmpN p a b
def ext (o frm tw x:Int):Int:=if o=16 then x else if o=17 then sg frm x%sz tw else x%sz tw
def lanes (o lane:Int):Nat->Int->Int->Int
 | 0,_,_=>0
 | k+1,a,b=>(if o=19 then a%sz lane+b%sz lane else a%sz lane-b%sz lane)%sz lane+sz lane*lanes o lane k (a / sz lane) (b / sz lane)
theorem sz_pos (n:Int):0<sz n:=by unfold sz;exact Int.pow_pos (by decide)
theorem sz_nat (n:Int):sz n=((2 ^ n.toNat:Nat):Int):=by unfold sz;simp
theorem sz_le {n m:Int}(h:n.toNat<=m.toNat):sz n<=sz m:=by rw[sz_nat,sz_nat];exact_mod_cast Nat.pow_le_pow_right (by decide) h
theorem sz_32 {n:Int}(h:Wid n):sz n<=4294967296:=by
 have:=sz_le (n:=n) (m:=32) (by have:=h.2;omega);have e:sz 32=4294967296:=by decide
 omega
theorem sz_half {n:Int}(h:Wid n):sz n=2*sz (n-1):=by
 unfold sz;have:n.toNat=(n-1).toNat+1:=by have:=h.1;omega
 rw[this,Int.pow_succ];omega
theorem sg_range {n a:Int}(hn:Wid n)(ha:Word n a):-sz (n-1)<=sg n a/\sg n a<sz (n-1):=by have d:=sz_half hn;obtain⟨g,j⟩:=ha;unfold sg;split<;>omega
theorem mod_word {n:Int}(z:Int):Word n (z%sz n):=⟨Int.emod_nonneg _ (by have:=sz_pos n;omega),Int.emod_lt_of_pos _ (sz_pos n)⟩
theorem ofInt_nat (n:Nat)(h:n<4294967296):(BitVec.ofInt 32 (n:Int)).toNat=n:=by rw[BitVec.ofInt_natCast,BitVec.toNat_ofNat];exact Nat.mod_eq_of_lt h
theorem wrap_in (z:Int)(h0:0<=z)(h1:z<4294967296):IntKind.u32.wrap z=z:=by rw[eD];omega
theorem bits_word {n a b:Int}(hn:Wid n)(ha:Word n a)(hb:Word n b):Word n (bits .and .u32 a b)/\Word n (bits .or .u32 a b)/\Word n (bits .xor .u32 a b):=by
 obtain⟨x,rfl⟩:=tb ha.1;obtain⟨y,rfl⟩:=tb hb.1;have g:=sz_32 hn;have j:x<2 ^ n.toNat:=by have:=ha.2;rw[sz_nat]at this;exact_mod_cast this
 have l:y<2 ^ n.toNat:=by have:=hb.2;rw[sz_nat]at this;exact_mod_cast this
 have p:(2 ^ n.toNat:Nat)<=4294967296:=by rw[sz_nat]at g;generalize 2 ^ n.toNat=m at g ⊢;omega
 have d:∀z:Nat,z<2 ^ n.toNat->Word n (IntKind.u32.wrap (z:Int)):=fun z hz=>by rw[wrap_in _ (by omega) (by omega)];exact⟨by omega,by rw[sz_nat];exact_mod_cast hz⟩
 refine⟨?_,?_,?_⟩
 ·show Word n (IntKind.u32.wrap (((BitVec.ofInt 32 (x:Int) &&& BitVec.ofInt 32 (y:Int)).toNat:Nat):Int));rw[BitVec.toNat_and,ofInt_nat _ (by omega),ofInt_nat _ (by omega)];exact d _ (Nat.lt_of_le_of_lt Nat.and_le_left j)
 ·show Word n (IntKind.u32.wrap (((BitVec.ofInt 32 (x:Int) ||| BitVec.ofInt 32 (y:Int)).toNat:Nat):Int));rw[BitVec.toNat_or,ofInt_nat _ (by omega),ofInt_nat _ (by omega)];exact d _ (Nat.or_lt_two_pow j l)
 ·show Word n (IntKind.u32.wrap (((BitVec.ofInt 32 (x:Int) ^^^ BitVec.ofInt 32 (y:Int)).toNat:Nat):Int));rw[BitVec.toNat_xor,ofInt_nat _ (by omega),ofInt_nat _ (by omega)];exact d _ (Nat.xor_lt_two_pow j l)
theorem op_word {o n a b z:Int}(hn:Wid n)(ha:Word n a)(hb:Word n b)(h:op o n a b=some z):Word n z:=by
 obtain⟨H,I,J⟩:=bits_word hn ha hb;have F:∀k:Int,0<=k->0<=a / k/\a / k<=a:=fun k hk=>⟨tQ ha.1 hk,Int.ediv_le_self _ ha.1⟩;have G:∀k:Int,0<=k->Word n (a / k):=fun k hk=>⟨(F k hk).1,by have:=(F k hk).2;have:=ha.2;omega⟩;have K:(0:Int)<=2 ^ b.toNat:=Int.le_of_lt (Int.pow_pos (by decide))
 have d:∀{c:Prop} [Decidable c] {y:Int},(if c then none else some y)=some z->Word n y->Word n z:=fun h hy=>by
  split at h
  ·cases h
  ·injection h with h;rw[<-h];exact hy
 unfold op at h;by_cases q:o=1
 ·rw[tB q]at h;injection h with h;rw[<-h];exact mod_word _
 rw[tC q]at h;by_cases r:o=2
 ·rw[tB r]at h;injection h with h;rw[<-h];exact mod_word _
 rw[tC r]at h;by_cases t:o=3
 ·rw[tB t]at h;injection h with h;rw[<-h];exact mod_word _
 rw[tC t]at h;by_cases u:o=4
 ·rw[tB u]at h;exact d h (G b hb.1)
 rw[tC u]at h;by_cases A:o=5
 ·rw[tB A]at h;by_cases p:b=0
  ·rw[tB p]at h;cases h
  ·rw[tC p]at h;injection h with h;have L:=Int.emod_nonneg a (b:=b) p;have M:=Int.emod_lt_of_pos a (b:=b) (by have:=hb.1;omega);have:=hb.2;exact⟨by omega,by omega⟩
 rw[tC A]at h;by_cases B:o=6
 ·rw[tB B]at h;exact d h (mod_word _)
 rw[tC B]at h;by_cases C:o=7
 ·rw[tB C]at h;exact d h (mod_word _)
 rw[tC C]at h;by_cases D:o=8
 ·rw[tB D]at h;injection h with h;rw[<-h];exact H
 rw[tC D]at h;by_cases E:o=9
 ·rw[tB E]at h;injection h with h;rw[<-h];exact I
 rw[tC E]at h;by_cases g:o=10
 ·rw[tB g]at h;injection h with h;rw[<-h];exact J
 rw[tC g]at h;by_cases m:n<=b
 ·rw[tB m]at h;cases h
 rw[tC m]at h;by_cases j:o=11
 ·rw[tB j]at h;injection h with h;rw[<-h];exact mod_word _
 rw[tC j]at h;by_cases l:o=12
 ·rw[tB l]at h;injection h with h;rw[<-h];exact G _ K
 rw[tC l]at h;injection h with h;rw[<-h];exact mod_word _
def bt (o:Int)(p q:Int):Int:=if o=8 then p*q else if o=9 then max p q else (p+q)%2
end Wd
namespace Wd
def lane1 (o S x y:Int):Int:=(if o=19 then x%S+y%S else x%S-y%S)%S
theorem lane1_range (o S x y:Int)(hS:0<S):0<=lane1 o S x y/\lane1 o S x y<S:=⟨Int.emod_nonneg _ (by omega),Int.emod_lt_of_pos _ hS⟩
theorem div_pow (a S:Int)(hS:0<S)(k:Nat):a / S / S ^ k=a / S ^ (k+1):=by rw[Int.ediv_ediv_of_nonneg (Int.le_of_lt hS),Int.pow_succ,Int.mul_comm]
theorem lanes_succ (o l:Int)(k:Nat)(a b:Int):lanes o l (k+1) a b=lane1 o (sz l) a b+sz l*lanes o l k (a / sz l) (b / sz l):=rfl
theorem lanes_step (o l:Int)(k:Nat):∀a b:Int,lanes o l (k+1) a b=lanes o l k a b+lane1 o (sz l) (a / sz l ^ k) (b / sz l ^ k)*sz l ^ k:=by
 have d:=sz_pos l
 induction k with
 | zero=>intro a b;rw[lanes_succ];simp[lanes]
 | succ k ih =>
  intro a b;rw[lanes_succ,ih,lanes_succ o l k a b,div_pow _ _ d,div_pow _ _ d,Int.mul_add,Int.pow_succ (sz l) k,Int.add_assoc];congr 2;rw[<-Int.mul_assoc,Int.mul_comm (sz l) (lane1 _ _ _ _),Int.mul_assoc,Int.mul_comm (sz l) (sz l ^ k)]
theorem lanes_range (o l:Int)(k:Nat)(a b:Int):0<=lanes o l k a b/\lanes o l k a b<sz l ^ k:=by
 have j:=sz_pos l
 induction k generalizing a b with
 | zero=>simp[lanes]
 | succ k ih =>
  obtain⟨d,m⟩:=ih (a / sz l) (b / sz l);obtain⟨p,q⟩:=lane1_range o (sz l) a b j;rw[lanes_succ,Int.pow_succ,Int.mul_comm (sz l ^ k)];have r:0<=sz l*lanes o l k (a / sz l) (b / sz l):=Int.mul_nonneg (by omega) d;have g:sz l*(lanes o l k (a / sz l) (b / sz l)+1)<=sz l*sz l ^ k:=Int.mul_le_mul_of_nonneg_left (by omega) (by omega);rw[Int.mul_add]at g;omega
theorem sz_pow (m k:Nat):sz (m:Int) ^ k=sz ((m*k:Nat):Int):=by unfold sz;rw[tc,tc,Int.pow_mul]
end Wd
namespace Wd
theorem mask_and {n x:Int}(hn:Wid n)(h0:0<=x)(h1:x<4294967296):bits .and .u32 x (sz n-1)=x%sz n:=by
 obtain⟨y,rfl⟩:=tb h0;have p:y<4294967296:=by omega
 have d:=sz_32 hn;have g:=sz_pos n;rw[sz_nat]at d g ⊢;generalize hm:n.toNat=m at d g ⊢
 have l:((2 ^ m:Nat):Int)-1=((2 ^ m-1:Nat):Int):=by have:=Nat.two_pow_pos m;omega
 have j:2 ^ m-1<4294967296:=by generalize 2 ^ m=q at d g ⊢;omega
 rw[l];show IntKind.u32.wrap (((BitVec.ofInt 32 (y:Int) &&& BitVec.ofInt 32 ((2 ^ m-1:Nat):Int)).toNat:Nat):Int)=_;rw[BitVec.toNat_and,ofInt_nat _ p,ofInt_nat _ j,Nat.and_two_pow_sub_one_eq_mod,wrap_in _ (by omega) (by have:=Nat.mod_le y (2 ^ m);omega)];simp
theorem sz_dvd {n:Int}(hn:Wid n):sz n ∣ 4294967296:=by
 have e:(4294967296:Int)=2 ^ 32:=by decide
 rw[e];unfold sz;have h:=hn.2;exact⟨2 ^ (32-n.toNat),by rw[<-Int.pow_add];congr 1;omega⟩
theorem mod_mod {n:Int}(z:Int)(hn:Wid n):z%4294967296%sz n=z%sz n:=Int.emod_emod_of_dvd z (sz_dvd hn)
theorem wrap_mask {n:Int}(z:Int)(hn:Wid n):bits .and .u32 (z%4294967296) (sz n-1)=z%sz n:=by rw[mask_and hn (by omega) (by omega),mod_mod z hn]
end Wd
end
section
namespace Rn
open Ref
structure V where
 p:Bool
 s:Int
 n:Int
 deriving Inhabited,DecidableEq
def zero:V:=⟨false,0,0⟩
def poison:V:=⟨true,0,0⟩
def word (n:Int):V:=⟨false,0,n⟩
structure Out where
 kind:Int
 ret:V
 mem:List (List Int)
 deriving Inhabited,DecidableEq
def undefd:Out:=⟨1,zero,[]⟩
def long:Out:=⟨2,zero,[]⟩
structure Inp where
 args:List Int
 mem:List (List Int)
 deriving Inhabited,DecidableEq
structure St where
 vals:List V
 had:List Bool
 mem:List (List Int)
 widths:List Int
 steps:Nat
 deriving Inhabited,DecidableEq
def St.get (s:St)(v:Int):V:=s.vals.getD v.toNat zero
def St.set (s:St)(v:Nat)(x:V):St:={s with vals:=s.vals.set v x,had:=s.had.set v true}
def St.tick (s:St):St:={s with steps:=s.steps+1}
abbrev Pick:=Nat->Int->Int
def given (picks:List Int):Pick:=fun k n=>if k<picks.length then picks.getD k 0%Wd.sz n else 0
def chosen (pick:Pick)(s:St)(n:Int):V:=word (pick s.widths.length n)
def St.chose (s:St)(n:Int):St:={s with widths:=s.widths++[n]}
def arith (o fl n:Int)(a b:V):Option V :=
 if (4<=o/\o<=7)/\((b.p=true\/b.n=0)\/(o=6\/o=7)/\Wd.sg n b.n=-1/\(a.p=true\/Wd.sg n a.n=-Wd.sz (n-1))) then none
 else if a.p=true\/b.p=true then some poison
 else match Wd.op o n a.n b.n with
  | none=>some poison
  | some z=>if Wd.brk o fl n a.n b.n=true then some poison else some (word z)
def bytesAt (mem:List (List Int))(p:V)(n:Nat):Option (List Int) :=
 if p.p=true\/(mem.getD (p.s-1).toNat []).length<p.n.toNat+n then none else some (((mem.getD (p.s-1).toNat []).drop p.n.toNat).take n)
def numB:List Int->Int
 | []=>0
 | b::r=>b+256*numB r
def load (mem:List (List Int))(p:V)(n:Nat):Option V :=
 (bytesAt mem p n).map fun l=>if l.any (fun b=>decide (b<0))=true then poison else word (numB l)
def bytesOf (x:V):Nat->Int->List Int
 | 0,_=>[]
 | k+1,z=>(if x.p=true then -1 else z%256)::bytesOf x k (z / 256)
def overlay (l:List Int)(at_:Nat)(bs:List Int):List Int:=l.take at_++bs++l.drop (at_+bs.length)
def store (mem:List (List Int))(p x:V)(n:Nat):Option (List (List Int)) :=
 if p.p=true\/(mem.getD (p.s-1).toNat []).length<p.n.toNat+n then none
 else some (mem.set (p.s-1).toNat (overlay (mem.getD (p.s-1).toNat []) p.n.toNat (bytesOf x n x.n)))
def gep (slots:List Int)(fl k:Int)(p b:V):V :=
 if fl=8/\slots.getD (p.s-1).toNat 0<(p.n+Wd.sg k b.n)%4294967296 then poison else ⟨false,p.s,(p.n+Wd.sg k b.n)%4294967296⟩
def truth (b:Bool):V:=word (if b=true then 1 else 0)
inductive Res
 | val (v:V)
 | on
 | go (t:Int)
 | fin (o:Out)
 deriving DecidableEq
def plain (f:Fn)(x:Ins)(l:List V)(ks:List Int):V :=
 if x.op=0 then word x.imm
 else if x.op=14 then truth (Wd.cmp x.imm (ks.getD 0 0) (l.getD 0 zero).n (l.getD 1 zero).n)
 else if x.op=16\/x.op=17\/x.op=18 then word (Wd.ext x.op (ks.getD 0 0) x.width (l.getD 0 zero).n)
 else if x.op=19\/x.op=20 then word (Wd.lanes x.op x.imm (x.width / x.imm).toNat (l.getD 0 zero).n (l.getD 1 zero).n)
 else if x.op=24 then ⟨false,x.imm+1,0⟩
 else gep f.slots x.flags (ks.getD 1 0) (l.getD 0 zero) (l.getD 1 zero)
def exec (f:Fn)(pick:Pick)(x:Ins)(s:St):Res × St :=
 let l:=x.args.map s.get
 let ks:=x.args.map (kind f)
 if x.op=29 then (.go (x.to.getD 0 0),s)
 else if x.op=30 then (if (l.getD 0 zero).p=true then (.fin undefd,s) else (.go (x.to.getD (1-(l.getD 0 zero).n).toNat 0),s))
 else if x.op=31 then (.fin ⟨0,l.getD 0 zero,s.mem⟩,s)
 else if x.op=32 then (.fin undefd,s)
 else if x.op=26 then (match load s.mem (l.getD 0 zero) (x.width / 8).toNat with|none=>(.fin undefd,s)|some v=>(.val v,s))
 else if x.op=27 then (match store s.mem (l.getD 0 zero) (l.getD 1 zero) (ks.getD 1 0 / 8).toNat with|none=>(.fin undefd,s)|some m=>(.on,{s with mem:=m}))
 else if x.op=21 then (if (l.getD 0 zero).p=true then (.val (chosen pick s x.width),s.chose x.width) else (.val (l.getD 0 zero),s))
 else if x.op=23 then (.val (chosen pick s x.width),s.chose x.width)
 else if x.op=15 then (if (l.getD 0 zero).p=true then (.val poison,s) else (.val (l.getD (2-(l.getD 0 zero).n).toNat zero),s))
 else if 1<=x.op/\x.op<=13 then (match arith x.op x.flags x.width (l.getD 0 zero) (l.getD 1 zero) with|none=>(.fin undefd,s)|some v=>(.val v,s))
 else if x.op=22\/l.any (·.p)=true then (.val poison,s)
 else (.val (plain f x l ks),s)
inductive Nx
 | run (t:Int)
 | over (o:Out)
 deriving DecidableEq
def phiRead (s:St)(frm:Int)(x:Ins):V:=s.get (x.args.getD (x.to.idxOf frm) 0)
def phis (l:List Ins):List Ins:=l.takeWhile fun x=>decide (x.op=28)
def runIns (f:Fn)(pick:Pick)(reads:List V):List Ins->Nat->Nat->St->Nx × St
 | [],_,_,s=>(.over undefd,s)
 | x::r,i,v,s =>
  if s.steps=400 then (.over long,s)
  else if i<reads.length then runIns f pick reads r (i+1) (v+1) (s.tick.set v (reads.getD i zero))
  else match exec f pick x s.tick with
   | (.val y,s')=>runIns f pick reads r (i+1) (v+1) (s'.set v y)
   | (.on,s')=>runIns f pick reads r (i+1) (v+1) s'
   | (.go t,s')=>(.run t,s')
   | (.fin o,s')=>(.over o,s')
def block (f:Fn)(pick:Pick)(b:Nat)(frm:Int)(s:St):Nx × St :=
 runIns f pick ((phis (f.blocks.getD b [])).map (phiRead s frm)) (f.blocks.getD b []) 0 (Ref.number f b) s
def from_ (f:Fn)(pick:Pick):Nat->Nat->Int->St->Out × St × List Int
 | 0,_,_,s=>(undefd,s,[])
 | k+1,b,frm,s =>
  match block f pick b frm s with
  | (.over o,s')=>(o,s',[(b:Int)])
  | (.run t,s')=>((from_ f pick k t.toNat b s').1,(from_ f pick k t.toNat b s').2.1,(b:Int)::(from_ f pick k t.toNat b s').2.2)
def start (f:Fn)(i:Inp):St :=
 {vals:=i.args.map word++List.replicate (count f-i.args.length) zero,had:=i.args.map (fun _=>true)++List.replicate (count f-i.args.length) false,mem:=i.mem,widths:=[],steps:=0}
def run (f:Fn)(pick:Pick)(i:Inp):Out × St × List Int:=from_ f pick 401 0 (-1) (start f i)
def sgn (a b:Int):Int:=if a<b then -1 else if b<a then 1 else 0
def cmpInts:List Int->List Int->Int
 | [],[]=>0
 | [],_::_=>-1
 | _::_,[]=>1
 | a::azs,b::bs=>if sgn a b=0 then cmpInts azs bs else sgn a b
def cmpMem:List (List Int)->List (List Int)->Int
 | [],[]=>0
 | [],_::_=>-1
 | _::_,[]=>1
 | a::azs,b::bs=>if cmpInts a b=0 then cmpMem azs bs else cmpInts a b
def bit (b:Bool):Int:=if b=true then 1 else 0
def heads (o:Out):List Int:=[o.kind,bit o.ret.p,o.ret.s,o.ret.n]
def cmpOut (a b:Out):Int:=if cmpInts (heads a) (heads b)=0 then cmpMem a.mem b.mem else cmpInts (heads a) (heads b)
def insert (x:Out):List Out->List Out
 | []=>[x]
 | y::r=>if cmpOut x y=0 then y::r else if cmpOut x y<0 then x::y::r else y::insert x r
def nextK (p w:List Int):Nat->Option Nat
 | 0=>none
 | k+1=>if p.getD k 0+1<Wd.sz (w.getD k 0) then some k else nextK p w k
def padded (p:List Int)(n:Nat):List Int:=p++List.replicate (n-p.length) 0
def bump (p:List Int)(k:Nat):List Int:=p.take k++[p.getD k 0+1]
def explore (f:Fn)(i:Inp):Nat->List Int->List Out->Option (List Out)
 | 0,_,_=>none
 | n+1,picks,out =>
  let r:=run f (given picks) i
  let p:=padded picks r.2.1.widths.length
  match nextK p r.2.1.widths r.2.1.widths.length with
  | none=>some (insert r.1 out)
  | some k=>explore f i n (bump p k) (insert r.1 out)
def all (f:Fn)(i:Inp):Option (List Out):=explore f i 256 [] []
def validInput (f:Fn)(i:Inp):Int :=
 if validate f≠0 then validate f
 else if i.args.length≠f.params.length\/i.mem.length≠f.slots.length then 1
 else if (f.params.zip i.args).any (fun q=>decide (Wd.sz q.1<=q.2))=true then 1
 else if (f.slots.zip i.mem).any (fun q=>decide ((q.2.length:Int)≠q.1) || q.2.any (fun b=>decide (b < -1) || decide (255<b)))=true then 1
 else 0
end Rn
end
section
namespace Rn
open Ref
def Im (f:Fn):Prop:=∀l∈f.blocks,∀x∈l,0<=x.imm/\x.imm<4294967296
def MemW (n:Int):Prop:=n=8\/n=16\/n=32
inductive Shp (f:Fn) (x:Ins):Prop
 | const (ho:x.op=0) (ha:x.args=[]) (hw:Wd.Wid x.width) (hi:Wd.Word x.width x.imm)
 | arith (ho:1<=x.op/\x.op<=13) (a b:Int) (ha:x.args=[a,b]) (ka:kind f a=x.width) (kb:kind f b=x.width) (hw:Wd.Wid x.width) (hf:0<=x.flags/\x.flags<=7)
 | cmp (ho:x.op=14) (a b:Int) (ha:x.args=[a,b]) (kb:kind f b=kind f a) (hk:Wd.Wid (kind f a)) (hw:x.width=1) (hi:0<=x.imm/\x.imm<=9)
 | select (ho:x.op=15) (a b c:Int) (ha:x.args=[a,b,c]) (ka:kind f a=1) (kb:kind f b=x.width) (kc:kind f c=x.width) (hw:Wd.Wid x.width\/x.width=33)
 | ext (ho:x.op=16\/x.op=17\/x.op=18) (a:Int) (ha:x.args=[a]) (hk:Wd.Wid (kind f a)) (hw:Wd.Wid x.width) (hd:if x.op=18 then x.width<kind f a else kind f a<x.width)
 | lanes (ho:x.op=19\/x.op=20) (a b:Int) (ha:x.args=[a,b]) (ka:kind f a=x.width) (kb:kind f b=x.width) (hw:Wd.Wid x.width) (h1:1<=x.imm) (h2:x.imm<x.width) (h3:x.width%x.imm=0)
 | freeze (ho:x.op=21) (a:Int) (ha:x.args=[a]) (ka:kind f a=x.width) (hw:Wd.Wid x.width)
 | poison (ho:x.op=22) (ha:x.args=[]) (hw:Wd.Wid x.width)
 | any (ho:x.op=23) (ha:x.args=[]) (hw:Wd.Wid x.width)
 | addr (ho:x.op=24) (ha:x.args=[]) (hw:x.width=33) (hi:0<=x.imm/\x.imm<f.slots.length)
 | gep (ho:x.op=25) (a b:Int) (ha:x.args=[a,b]) (ka:kind f a=33) (kb:Wd.Wid (kind f b)) (hw:x.width=33) (hf:x.flags=0\/x.flags=8)
 | load (ho:x.op=26) (a:Int) (ha:x.args=[a]) (ka:kind f a=33) (hw:MemW x.width)
 | store (ho:x.op=27) (a b:Int) (ha:x.args=[a,b]) (ka:kind f a=33) (kb:MemW (kind f b)) (hw:x.width=0)
 | phi (ho:x.op=28) (hl:x.args.length=x.to.length) (hk:∀v∈x.args,kind f v=x.width) (hw:Wd.Wid x.width\/x.width=33)
 | jump (ho:x.op=29) (ha:x.args=[]) (t:Int) (ht:x.to=[t]) (hw:x.width=0)
 | branch (ho:x.op=30) (a:Int) (ha:x.args=[a]) (ka:kind f a=1) (t u:Int) (ht:x.to=[t,u]) (hw:x.width=0)
 | ret0 (ho:x.op=31) (ha:x.args=[]) (hr:f.ret=0) (hw:x.width=0)
 | ret (ho:x.op=31) (a:Int) (ha:x.args=[a]) (ka:kind f a=f.ret) (hr:Wd.Wid f.ret) (hw:x.width=0)
 | trap (ho:x.op=32) (ha:x.args=[]) (hw:x.width=0)
theorem wid_of {n:Int}(h:isWidth n=true):Wd.Wid n:=by unfold isWidth at h;simp only[tD,decide_eq_true_eq]at h;exact h
theorem len0 {l:List Int}(h:(l.length:Int)=0):l=[]:=tK (by omega)
theorem len1 {l:List Int}(h:(l.length:Int)=1):∃a,l=[a]:=by
 match l with
 | []=>simp at h
 | [a]=>exact⟨a,rfl⟩
 | _::_::_=>simp at h;omega
theorem len2 {l:List Int}(h:(l.length:Int)=2):∃a b,l=[a,b]:=by
 match l with
 | []=>simp at h
 | [_]=>simp at h
 | [a,b]=>exact⟨a,b,rfl⟩
 | _::_::_::_=>simp at h;omega
theorem len3 {l:List Int}(h:(l.length:Int)=3):∃a b c,l=[a,b,c]:=by
 match l with
 | []=>simp at h
 | [_]=>simp at h
 | [_,_]=>simp at h
 | [a,b,c]=>exact⟨a,b,c,rfl⟩
 | _::_::_::_::_=>simp at h;omega
theorem word_of {n x:Int}(h:isWordOf n x=true)(h0:0<=x):Wd.Word n x:=by unfold isWordOf at h;simp only[tD,decide_eq_true_eq]at h;exact⟨h0,h.2⟩
theorem shp {f:Fn}(hv:Val f)(hi:Im f){l:List Ins}(hl:l∈f.blocks){x:Ins}(hx:x∈l):Shp f x:=by
 obtain⟨d,T,X,Y⟩:=(argument_iff f x).1 (hv.arg l hl x hx);obtain⟨m,p,r⟩:=(counts_iff _ _).1 T;obtain⟨Z,g⟩:=(typed_iff f x).1 (hv.typ l hl x hx);obtain⟨Q,W⟩:=hi l hl x hx;have U:=hv.ret;clear T hl hx hv hi;by_cases K:x.op=0
 ·have q:Ref.shape f x=(0,0,isWidth x.width && decide (x.flags=0) && isWordOf x.width x.imm):=by unfold Ref.shape;rw[tB K]
  rw[q]at d m p r;simp at d;exact .const K (len0 (m (by simp))) (wid_of d.1.1) (word_of d.2 Q)
 by_cases y:x.op=14
 ·
  simp[Ref.shape,y]at d m p r;obtain⟨a,b,j⟩:=len2 (by omega:(x.args.length:Int)=2);simp[typedKinds,y,j]at g;exact .cmp y a b j g.2 (wid_of g.1) d.1.1 ⟨Q,d.2⟩
 by_cases A:x.op=15
 ·simp[Ref.shape,A]at d m p r;obtain⟨a,b,c,j⟩:=len3 (by omega:(x.args.length:Int)=3);simp[typedKinds,A,j]at g;exact .select A a b c j g.1.1 g.1.2 g.2 (d.1.imp wid_of id)
 by_cases B:x.op=16\/x.op=17\/x.op=18\/x.op=21
 ·simp[Ref.shape,K,y,A,B]at d m p r;obtain⟨a,j⟩:=len1 (by omega:(x.args.length:Int)=1);rcases B with h|h|h|h
  ·simp[typedKinds,h,j]at g;exact .ext (.inl h) a j (wid_of g.1) (wid_of d.1) (by rw[tC (by omega)];exact g.2)
  ·simp[typedKinds,h,j]at g;exact .ext (.inr (.inl h)) a j (wid_of g.1) (wid_of d.1) (by rw[tC (by omega)];exact g.2)
  ·simp[typedKinds,h,j]at g;exact .ext (.inr (.inr h)) a j (wid_of g.1) (wid_of d.1) (by rw[tB h];exact g.2)
  ·simp[typedKinds,h,j]at g;exact .freeze h a j g (wid_of d.1)
 by_cases D:x.op=19\/x.op=20
 ·have q:Ref.shape f x=(2,0,isWidth x.width && decide (x.flags=0) && decide (1<=x.imm) && decide (x.imm<x.width) && decide (x.width%x.imm=0)):=by
   simp only[Ref.shape,K,y,A,B,D,if_false,if_true]
  rw[q]at d m p r;simp at d m p r;obtain⟨a,b,j⟩:=len2 (by omega:(x.args.length:Int)=2)
  have R:typedKinds f x (x.args.map (kind f))=(x.args.map (kind f)).all fun z=>decide (z=x.width):=by unfold typedKinds;repeat rw[tC (by omega)]
  rw[R,j]at g;simp at g;exact .lanes D a b j g.1 g.2 (wid_of d.1.1.1.1) d.1.1.2 d.1.2 d.2
 by_cases L:x.op=22\/x.op=23
 ·simp only[Ref.shape,K,y,A,B,D,L,if_false,if_true,tD]at d m p r;rcases L with h|h
  ·exact .poison h (len0 (m (by decide))) (wid_of d.1)
  ·exact .any h (len0 (m (by decide))) (wid_of d.1)
 by_cases M:x.op=24
 ·simp[Ref.shape,M]at d m p r;exact .addr M m d.1.1 ⟨Q,d.2⟩
 by_cases E:x.op=25
 ·simp[Ref.shape,E]at d m p r;obtain⟨a,b,j⟩:=len2 (by omega:(x.args.length:Int)=2);simp[typedKinds,E,j]at g;exact .gep E a b j g.1 (wid_of g.2) d.1.1 d.2
 by_cases F:x.op=26
 ·simp[Ref.shape,F]at d m p r;obtain⟨a,j⟩:=len1 (by omega:(x.args.length:Int)=1);simp[typedKinds,F,j]at g;exact .load F a j g (by unfold MemW;omega)
 by_cases G:x.op=27
 ·simp[Ref.shape,G]at d m p r;obtain⟨a,b,j⟩:=len2 (by omega:(x.args.length:Int)=2);simp[typedKinds,G,j,isMem]at g;exact .store G a b j g.1 (by unfold MemW;omega) d.1
 by_cases H:x.op=28
 ·simp[Ref.shape,H]at d m p r;rw[typedKinds_phi f H]at g;simp at g;exact .phi H p g (d.1.1.imp wid_of id)
 by_cases N:x.op=29
 ·simp[Ref.shape,N]at d m p r;obtain⟨t,P⟩:=len1 (by omega:(x.to.length:Int)=1);exact .jump N m t P d.1
 by_cases I:x.op=30
 ·simp[Ref.shape,I]at d m p r;obtain⟨a,j⟩:=len1 (by omega:(x.args.length:Int)=1);obtain⟨t,u,P⟩:=len2 (by omega:(x.to.length:Int)=2);simp[typedKinds,I,j]at g;exact .branch I a j g t u P d.1
 by_cases C:x.op=31
 ·simp[Ref.shape,C]at d m p r;by_cases J:0<f.ret
  ·rw[tB J]at m;obtain⟨a,j⟩:=len1 (by omega:(x.args.length:Int)=1);simp[typedKinds,C,j]at g;exact .ret C a j g ⟨by omega,U.2⟩ d.1
  ·rw[tC J]at m;exact .ret0 C (len0 (by omega)) (by omega) d.1
 by_cases O:x.op=32
 ·simp[Ref.shape,O]at d m p r;exact .trap O m d.1
 by_cases S:1<=x.op/\x.op<=13
 ·have q:Ref.shape f x=(2,0,isWidth x.width && decide (x.imm=0) && Ref.arith x):=by
   unfold Ref.shape;repeat rw[tC (by omega)]
   rw[tB S]
  rw[q]at d m p r;simp at d m p r;obtain⟨a,b,j⟩:=len2 (by omega:(x.args.length:Int)=2)
  have R:typedKinds f x (x.args.map (kind f))=(x.args.map (kind f)).all fun z=>decide (z=x.width):=by unfold typedKinds;repeat rw[tC (by omega)]
  rw[R,j]at g;simp at g;refine .arith S a b j g.1 g.2 (wid_of d.1.1) ?_;have:=d.2;unfold Ref.arith arith0 at this;split at this
  ·simp at this;omega
  split at this
  ·simp at this;omega
  ·simp at this;omega
 ·exfalso
  have q:Ref.shape f x=(0,0,false):=by unfold Ref.shape;repeat rw[tC (by omega)]
  rw[q]at d;simp at d
end Rn
end
section
namespace Rn
open Ref
def VOK (f:Fn)(k:Int)(v:V):Prop :=
 (v.p=true->v.s=0/\v.n=0)/\(v.p=false->(k=33->1<=v.s/\v.s<=f.slots.length/\0<=v.n/\v.n<4294967296)/\(k≠33->v.s=0/\Wd.Word k v.n))
theorem Wid33 {k:Int}(h:Wd.Wid k):k≠33:=by have:=h.2;omega
theorem VOK.num {f:Fn}{k:Int}{v:V}(h:VOK f k v)(hk:Wd.Wid k):v.s=0/\Wd.Word k v.n:=by
 cases hp:v.p with
 | false=>exact(h.2 hp).2 (Wid33 hk)
 | true=>obtain⟨d,g⟩:=h.1 hp;exact⟨d,by rw[g];exact⟨Int.le_refl 0,Wd.sz_pos k⟩⟩
theorem VOK.ptr {f:Fn}{v:V}(h:VOK f 33 v)(hp:v.p=false):1<=v.s/\v.s<=f.slots.length/\0<=v.n/\v.n<4294967296:=(h.2 hp).1 rfl
theorem VOK.u32 {f:Fn}{k:Int}{v:V}(h:VOK f k v)(hk:Wd.Wid k\/k=33):0<=v.n/\v.n<4294967296:=by
 rcases hk with hk|rfl
 ·have:=(h.num hk).2;have d:=Wd.sz_32 hk;exact⟨this.1,by have:=this.2;omega⟩
 ·cases hp:v.p with
  | true=>rw[(h.1 hp).2];decide
  | false=>exact⟨(h.ptr hp).2.2.1,(h.ptr hp).2.2.2⟩
theorem vok_poison (f:Fn)(k:Int):VOK f k poison:=⟨fun _=>⟨rfl,rfl⟩,(fun h=>by cases h)⟩
theorem vok_word (f:Fn){k n:Int}(hk:Wd.Wid k)(h:Wd.Word k n):VOK f k (word n):=⟨(fun h=>by cases h),fun _=>⟨fun h=>absurd h (Wid33 hk),fun _=>⟨rfl,h⟩⟩⟩
def Had (s:St)(v:Nat):Prop:=s.had.getD v false=true
structure Inv (f:Fn)(s:St):Prop where
 len:s.vals.length=count f
 hlen:s.had.length=count f
 ok:∀v:Nat,Had s v->VOK f (kind f v) (s.get v)/\kind f v≠0
 zero:∀v:Nat,¬Had s v->s.get v=zero
 mem:s.mem.map (fun r=>(r.length:Int))=f.slots
 bytes:∀r∈s.mem,∀b∈r,-1<=b/\b<=255
 par:∀v:Nat,v<f.params.length->Had s v
def AllHad (f:Fn)(s:St)(a:Nat)(l:List Ins):Prop:=∀j x,l[j]?=some x->x.width≠0->Had s (number f a+j)
structure Mid (f:Fn)(b i:Nat)(l:List Ins)(s:St):Prop extends Inv f s where
 rch:rc (graph f) (-1) b
 dom:∀a m,f.blocks[a]?=some m->a≠b->dominates (graph f) a b=true->AllHad f s a m
 here:∀j x,j<i->l[j]?=some x->x.width≠0->Had s (number f b+j)
section
variable {f:Fn}{b i:Nat}{l:List Ins}{s:St}
theorem had_set {s:St}{v u:Nat}{x:V}(h:Had s u):Had (s.set v x) u:=by
 unfold Had St.set at *;rw[sU]at *;by_cases e:v=u
 ·subst e
  have g:v<s.had.length:=by
   rcases tF v s.had.length with d|d
   ·exact d
   ·rw[tp d]at h;simp at h
  rw[tL g];rfl
 ·rw[List.getElem?_set_ne e];exact h
theorem had_set' {s:St}{v u:Nat}{x:V}(h:Had (s.set v x) u):u=v\/Had s u:=by
 by_cases e:v=u
 ·exact .inl e.symm
 ·refine .inr ?_;unfold Had St.set at *;rw[sU]at *
  rwa [List.getElem?_set_ne e]at h
theorem had_self {s:St}{v:Nat}{x:V}(h:v<s.had.length):Had (s.set v x) v:=by unfold Had St.set;rw[sU,tL h];rfl
theorem get_set_self {s:St}{v:Nat}{x:V}(h:v<s.vals.length):(s.set v x).get v=x:=by unfold St.get St.set;rw[tc,sU,tL h];rfl
theorem get_set_ne {s:St}{v u:Nat}{x:V}(h:v≠u):(s.set v x).get u=s.get u:=by unfold St.get St.set;rw[tc,sU,List.getElem?_set_ne h,<-sU]
structure Like (s s':St):Prop where
 vals:s'.vals=s.vals
 had:s'.had=s.had
 lens:s'.mem.map (fun r=>(r.length:Int))=s.mem.map (fun r=>(r.length:Int))
 bytes:(∀r∈s.mem,∀b∈r,-1<=b/\b<=255)->∀r∈s'.mem,∀b∈r,-1<=b/\b<=255
theorem Like.refl (s:St):Like s s:=⟨rfl,rfl,rfl,fun h=>h⟩
theorem Inv.like {s s':St}(h:Inv f s)(k:Like s s'):Inv f s' where
 len:=by rw[k.vals];exact h.len
 hlen:=by rw[k.had];exact h.hlen
 ok:=fun v hv=>by
  have:s'.get v=s.get v:=by unfold St.get;rw[k.vals]
  rw[this];exact h.ok v (by unfold Had at *;rwa [k.had]at hv)
 zero:=fun v hv=>by
  have:s'.get v=s.get v:=by unfold St.get;rw[k.vals]
  rw[this];exact h.zero v (by unfold Had at *;rwa [k.had]at hv)
 mem:=by rw[k.lens];exact h.mem
 bytes:=k.bytes h.bytes
 par:=fun v hv=>by unfold Had;rw[k.had];exact h.par v hv
theorem Mid.like {s s':St}(h:Mid f b i l s)(k:Like s s'):Mid f b i l s' where
 toInv:=h.toInv.like k
 rch:=h.rch
 dom:=fun a m d g p j x q r=>by unfold Had;rw[k.had];exact h.dom a m d g p j x q r
 here:=fun j x d g p=>by unfold Had;rw[k.had];exact h.here j x d g p
theorem like_tick (s:St):Like s s.tick:=⟨rfl,rfl,rfl,fun h=>h⟩
theorem like_chose (s:St)(n:Int):Like s (s.chose n):=⟨rfl,rfl,rfl,fun h=>h⟩
theorem Mid.skip (h:Mid f b i l s){x:Ins}(hx:l[i]?=some x)(hw:x.width=0):Mid f b (i+1) l s where
 toInv:=h.toInv
 rch:=h.rch
 dom:=h.dom
 here:=fun j y p d g=>by
  rcases tF j i with m|m
  ·exact h.here j y m d g
  ·have:j=i:=by omega
   subst this;rw[hx]at d;injection d with d;subst d;exact absurd hw g
theorem Mid.set (h:Mid f b i l s)(hl:f.blocks[b]?=some l){x:Ins}(hx:l[i]?=some x){y:V}(hw:x.width≠0)(hy:VOK f x.width y):Mid f b (i+1) l (s.set (number f b+i) y):=by
 have B:=(sR.1 hx).1;have A:=number_count f hl;have t:=kind_at f hl hx;refine {len:=?_,hlen:=?_,ok:=?_,zero:=?_,mem:=h.mem,bytes:=h.bytes,par:=fun v hv=>had_set (h.par v hv),rch:=h.rch,dom:=?_,here:=?_}
 ·show (s.vals.set _ _).length=_;rw[List.length_set];exact h.len
 ·show (s.had.set _ _).length=_;rw[List.length_set];exact h.hlen
 ·intro v hv;by_cases e:number f b+i=v
  ·subst e;rw[t,get_set_self (by rw[h.len];omega)];exact⟨hy,hw⟩
  ·rw[get_set_ne e];exact h.ok v ((had_set' hv).resolve_left fun q=>e q.symm)
 ·intro v hv;by_cases e:number f b+i=v
  ·subst e;exact absurd (had_self (by rw[h.hlen];omega)) hv
  ·rw[get_set_ne e];exact h.zero v fun q=>hv (had_set q)
 ·exact fun a m r g p j z d u=>had_set (h.dom a m r g p j z d u)
 ·intro j z r g p;rcases tF j i with d|d
  ·exact had_set (h.here j z d g p)
  ·have:j=i:=by omega
   subst this;exact had_self (by rw[h.hlen];omega)
theorem kind_pos {f:Fn}{v:Int}(h:0<kind f v):0<=v/\v<count f:=kind_in (by omega)
theorem there_had (h:Mid f b i l s)(hl:f.blocks[b]?=some l){v place:Int}(ht:there f (graph f) v b place=true)(hp:place=i\/(place=-1/\i=l.length))(hk:0<kind f v):Had s v.toNat:=by
 obtain⟨p,q⟩:=kind_pos hk;rcases home_of f p q with ⟨d,g⟩|⟨a,j,m,x,d,g,rfl⟩
 ·exact h.par _ (by omega)
 ·have r:=(sR.1 g).1;rw[kind_at f d g]at hk;unfold there at ht;rw[whereIs_at f d r]at ht;dsimp only at ht;rw[tC (by omega)]at ht;rw[tc];by_cases e:a=b
  ·subst e;rw[hl]at d;injection d with d;subst d;rw[tB rfl]at ht;simp at ht;exact h.here j x (by omega) g (by omega)
  ·rw[tC (by omega)]at ht;exact h.dom a m d e ht j x g (by omega)
theorem arg_there (hv:Val f)(h:Mid f b i l s)(hl:f.blocks[b]?=some l){x:Ins}(hx:l[i]?=some x)(ho:x.op≠28){v:Int}(hm:v∈x.args)(hk:0<kind f v):VOK f (kind f v) (s.get v):=by
 obtain⟨j,m⟩:=kind_pos hk;obtain⟨k,g⟩:=List.getElem?_of_mem hm;have d:=hv.st b l hl h.rch i x hx k v g;unfold argOk at d;rw[tC ho]at d;have:=(h.ok _ (there_had h hl d (.inl rfl) hk)).1
 rwa [show ((v.toNat:Nat):Int)=v by omega]at this
end
end Rn
end
section
namespace Rn
open Ref
def PickOk (pick:Pick):Prop:=∀k n,Wd.Wid n->Wd.Word n (pick k n)
theorem given_ok (picks:List Int):PickOk (given picks):=fun k n d=>by
 unfold given;split
 ·exact Wd.mod_word _
 ·exact⟨Int.le_refl 0,Wd.sz_pos n⟩
theorem numB_range:∀(l:List Int),(∀b∈l,0<=b/\b<=255)->0<=numB l/\numB l<256 ^ l.length
 | [],_=>⟨Int.le_refl 0,by decide⟩
 | b::r,h=>by
  obtain⟨d,g⟩:=numB_range r fun z hz=>h z (by simp[hz])
  have j:=h b (by simp);unfold numB;rw[List.length_cons,Int.pow_succ];omega
theorem mem_bytes {n:Int}(h:MemW n):(256:Int) ^ (n / 8).toNat=Wd.sz n/\Wd.Wid n/\1<=n / 8/\n / 8<=4:=by rcases h with rfl|rfl|rfl<;>exact⟨by decide,by unfold Wd.Wid;decide,by decide,by decide⟩
theorem overlay_len {l bs:List Int}{a:Nat}(h:a+bs.length<=l.length):(overlay l a bs).length=l.length:=by unfold overlay;simp;omega
theorem bytesOf_len (x:V):∀(k:Nat)(z:Int),(bytesOf x k z).length=k
 | 0,_=>rfl
 | k+1,z=>by unfold bytesOf;rw[List.length_cons,bytesOf_len x k]
theorem bytesOf_range (x:V):∀(k:Nat)(z:Int),∀b∈bytesOf x k z,-1<=b/\b<=255
 | 0,_,b,h=>by simp[bytesOf]at h
 | k+1,z,b,h=>by
  unfold bytesOf at h
  rcases List.mem_cons.1 h with rfl|h
  ·split<;>omega
  ·exact bytesOf_range x k _ b h
theorem map_set_same {α:Type}(g:List Int->α)(m:List (List Int))(k:Nat)(r:List Int)(h:g r=g (m.getD k [])):(m.set k r).map g=m.map g:=by
 rw[List.map_set];apply List.ext_getElem?;intro i;by_cases e:k=i
 ·subst e;rcases tF k m.length with d|d
  ·rw[tL (by simpa using d),h,td,sQ d,sU,sQ d];rfl
  ·rw[tp (by simpa using d),tp (by simpa using d)]
 ·rw[List.getElem?_set_ne e]
theorem store_like {s:St}{p x:V}{n:Nat}{m:List (List Int)}(h:store s.mem p x n=some m):Like s {s with mem:=m}:=by
 unfold store at h;split at h
 ·cases h
 next hc =>
  injection h with h;subst h;have l:=bytesOf_len x n x.n;refine⟨rfl,rfl,map_set_same _ _ _ _ (by rw[overlay_len (by omega)]),fun g r j b d=>?_⟩;rcases List.mem_or_eq_of_mem_set j with q|rfl
  ·exact g r q b d
  ·unfold overlay at d
   have old:∀c,c∈s.mem.getD (p.s-1).toNat []->-1<=c/\c<=255:=fun c hc'=>by
    rw[sU]at hc'
    cases e:s.mem[(p.s-1).toNat]? with
    | none=>rw[e]at hc';simp at hc'
    | some row=>rw[e]at hc';exact g row (sS e) c hc'
   rcases tI.1 d with q|q
   ·rcases tI.1 q with q|q
    ·exact old b (List.mem_of_mem_take q)
    ·exact bytesOf_range _ _ _ b q
   ·exact old b (List.mem_of_mem_drop q)
theorem bytesAt_range {mem:List (List Int)}(hr:∀r∈mem,∀b∈r,-1<=b/\b<=255){p:V}{n:Nat}{bs:List Int}(h:bytesAt mem p n=some bs):bs.length=n/\∀b∈bs,-1<=b/\b<=255:=by
 unfold bytesAt at h;split at h
 ·cases h
 next hc =>
  injection h with h;subst h;refine⟨by rw[List.length_take,List.length_drop];omega,fun b d=>?_⟩;have d:=List.mem_of_mem_drop (List.mem_of_mem_take d);rw[sU]at d
  cases e:mem[(p.s-1).toNat]? with
  | none=>rw[e]at d;simp at d
  | some row=>rw[e]at d;exact hr row (sS e) b d
theorem load_ok (f:Fn){mem:List (List Int)}(hr:∀r∈mem,∀b∈r,-1<=b/\b<=255){p y:V}{w:Int}(hw:MemW w)(h:load mem p (w / 8).toNat=some y):VOK f w y:=by
 obtain⟨l,m,q,t⟩:=mem_bytes hw;unfold load at h
 cases hb:bytesAt mem p (w / 8).toNat with
 | none=>rw[hb]at h;cases h
 | some bs =>
  rw[hb]at h;injection h with h;subst h;obtain⟨g,j⟩:=bytesAt_range hr hb;show VOK f w (if (bs.any fun b=>decide (b<0))=true then Rn.poison else word (numB bs));split
  ·exact vok_poison f w
  next d =>
   have d:∀b∈bs,0<=b/\b<=255:=fun b hb=>by have:=j b hb;simp only[tP,decide_eq_true_eq,not_exists,not_and,Int.not_lt]at d;exact⟨d b hb,this.2⟩
   have:=numB_range bs d;rw[g,l]at this;exact vok_word f m this
theorem arith_ok (f:Fn){o fl n:Int}{a b y:V}(hn:Wd.Wid n)(ha:Wd.Word n a.n)(hb:Wd.Word n b.n)(h:arith o fl n a b=some y):VOK f n y:=by
 unfold arith at h;split at h
 ·cases h
 split at h
 ·injection h with h;subst h;exact vok_poison f n
 cases ho:Wd.op o n a.n b.n with
 | none=>rw[ho]at h;injection h with h;subst h;exact vok_poison f n
 | some z =>
  rw[ho]at h;dsimp only at h;split at h
  ·injection h with h;subst h;exact vok_poison f n
  ·injection h with h;subst h;exact vok_word f hn (Wd.op_word hn ha hb ho)
theorem ext_word {o m n x:Int}(hm:Wd.Wid m)(hx:Wd.Word m x)(ho:o=16\/o=17\/o=18)(hd:if o=18 then n<m else m<n):Wd.Word n (Wd.ext o m n x):=by
 unfold Wd.ext;by_cases h:o=16
 ·rw[tB h];rw[tC (by omega)]at hd;exact⟨hx.1,Int.lt_of_lt_of_le hx.2 (Wd.sz_le (by omega))⟩
 ·rw[tC h];split<;>exact Wd.mod_word _
theorem lanes_word {o l n a b:Int}(h1:1<=l)(h2:l<n)(h3:n%l=0):Wd.Word n (Wd.lanes o l (n / l).toNat a b):=by
 have h:=Wd.lanes_range o l (n / l).toNat a b;obtain⟨m,rfl⟩:=tb (show 0<=l by omega);rw[Wd.sz_pow]at h
 have e:((m*(n / (m:Int)).toNat:Nat):Int)=n:=by have q:=Int.mul_ediv_add_emod n (m:Int);have d:0<=n / (m:Int):=tQ (by omega) (by omega);rw[Int.natCast_mul,Int.toNat_of_nonneg d];omega
 rw[e]at h;exact h
theorem gep_ok {f:Fn}{fl k:Int}{p b:V}(hp:VOK f 33 p)(hpp:p.p=false):VOK f 33 (gep f.slots fl k p b):=by
 unfold gep;obtain⟨d,g,j,l⟩:=hp.ptr hpp;split
 ·exact vok_poison f 33
 ·exact⟨(fun h=>by cases h),fun _=>⟨fun _=>⟨d,g,Int.emod_nonneg _ (by decide),Int.emod_lt_of_pos _ (by decide)⟩,fun h=>absurd rfl h⟩⟩
def After (f:Fn)(b i:Nat)(l:List Ins)(x:Ins)(s:St):Res × St->Prop
 | (.val y,s')=>x.width≠0/\VOK f x.width y/\Mid f b i l s'
 | (.on,s')=>x.width=0/\Mid f b i l s'
 | (.go t,s')=>x.width=0/\s'=s/\t∈x.to
 | (.fin _,s')=>s'=s
section
variable {f:Fn}{b i:Nat}{l:List Ins}{s:St}{pick:Pick}
theorem exec_ok (hv:Val f)(hi:Im f)(hpk:PickOk pick)(h:Mid f b i l s)(hl:f.blocks[b]?=some l){x:Ins}(hx:l[i]?=some x)(ho:x.op≠28):After f b i l x s (exec f pick x s):=by
 have y:=sS hl;have z:=sS hx;have j:∀v∈x.args,0<kind f v->VOK f (kind f v) (s.get v):=fun v hm hk=>arg_there hv h hl hx ho hm hk;have ne:∀{n:Int},Wd.Wid n->n≠0:=fun h=>by have:=h.1;omega
 have pos:∀{n:Int},Wd.Wid n->0<n:=fun h=>by have:=h.1;omega
 cases shp hv hi y z with
 | const o ha hw him =>
  simp[exec,o,ha,plain,After];exact⟨ne hw,vok_word f hw him,h⟩
 | arith o a c ha ka kc hw hf =>
  have g:=j a (by simp[ha]) (by rw[ka];exact pos hw);have r:=j c (by simp[ha]) (by rw[kc];exact pos hw);rw[ka]at g;rw[kc]at r
  have q:exec f pick x s=match arith x.op x.flags x.width (s.get a) (s.get c) with|none=>(.fin undefd,s)|some v=>(.val v,s):=by
   unfold exec;dsimp only;repeat rw[tC (by omega)]
   rw[tB o,ha];rfl
  rw[q]
  cases hr:arith x.op x.flags x.width (s.get a) (s.get c) with
  | none=>exact rfl
  | some v=>exact⟨ne hw,arith_ok f hw (g.num hw).2 (r.num hw).2 hr,h⟩
 | cmp o a c ha kc hk hw him =>
  simp only[exec,o,ha,plain,List.map_cons,List.map_nil];simp;split
  ·exact⟨by omega,vok_poison f _,h⟩
  ·refine⟨by omega,?_,h⟩;rw[hw];refine vok_word f (by unfold Wd.Wid;decide) ?_;split<;>exact⟨by decide,by decide⟩
 | select o a c d ha ka kc kd hw =>
  have D:0<x.width:=hw.elim pos (fun q=>by omega);have g:=j a (by simp[ha]) (by omega);have r:=j c (by simp[ha]) (by omega);have C:=j d (by simp[ha]) (by omega);rw[ka]at g;rw[kc]at r;rw[kd]at C;simp[exec,o,ha];split
  ·exact⟨by omega,vok_poison f _,h⟩
  ·have:=(g.num (by unfold Wd.Wid;decide)).2;have B:Wd.sz 1=2:=by decide
   obtain⟨E,A⟩:=this;rw[B]at A;rcases (by omega:(s.get a).n=0\/(s.get a).n=1) with q|q
   ·rw[q];exact⟨by omega,C,h⟩
   ·rw[q];exact⟨by omega,r,h⟩
 | ext o a ha hk hw hd =>
  have g:=j a (by simp[ha]) (pos hk);have r:=ext_word hk (g.num hk).2 o hd
  have q:exec f pick x s=if (s.get a).p=true then (.val poison,s) else (.val (word (Wd.ext x.op (kind f a) x.width (s.get a).n)),s):=by unfold exec plain;dsimp only;rcases o with o|o|o<;>simp[o,ha]
  rw[q];split
  ·exact⟨ne hw,vok_poison f _,h⟩
  ·exact⟨ne hw,vok_word f hw r,h⟩
 | lanes o a c ha ka kc hw h1 h2 h3 =>
  have q:exec f pick x s=if (s.get a).p=true\/(s.get c).p=true then (.val poison,s) else (.val (word (Wd.lanes x.op x.imm (x.width / x.imm).toNat (s.get a).n (s.get c).n)),s):=by unfold exec plain;dsimp only;rcases o with o|o<;>simp[o,ha]
  rw[q];split
  ·exact⟨ne hw,vok_poison f _,h⟩
  ·exact⟨ne hw,vok_word f hw (lanes_word h1 h2 h3),h⟩
 | freeze o a ha ka hw =>
  have g:=j a (by simp[ha]) (by rw[ka];exact pos hw);rw[ka]at g;simp[exec,o,ha];split
  ·exact⟨ne hw,vok_word f hw (hpk _ _ hw),h.like (like_chose _ _)⟩
  ·exact⟨ne hw,g,h⟩
 | poison o ha hw =>
  simp[exec,o,ha];exact⟨ne hw,vok_poison f _,h⟩
 | any o ha hw =>
  simp[exec,o,ha];exact⟨ne hw,vok_word f hw (hpk _ _ hw),h.like (like_chose _ _)⟩
 | addr o ha hw him =>
  simp[exec,o,ha,plain];refine⟨by omega,?_,h⟩;rw[hw];exact⟨(fun h=>by cases h),fun _=>⟨fun _=>⟨by show 1<=x.imm+1;omega,by show x.imm+1<=_;omega,by show (0:Int)<=0;omega,by show (0:Int)<_;omega⟩,fun h=>absurd rfl h⟩⟩
 | gep o a c ha ka kc hw hf =>
  have g:=j a (by simp[ha]) (by omega);rw[ka]at g;simp[exec,o,ha,plain];split
  ·exact⟨by omega,vok_poison f _,h⟩
  next hn =>
   refine⟨by omega,?_,h⟩;rw[hw];exact gep_ok g (by cases hp:(s.get a).p with|false=>rfl|true=>simp[hp]at hn)
 | load o a ha ka hw =>
  have q:exec f pick x s=match load s.mem (s.get a) (x.width / 8).toNat with|none=>(.fin undefd,s)|some v=>(.val v,s):=by unfold exec;simp[o,ha]<;>rfl
  rw[q]
  cases hr:load s.mem (s.get a) (x.width / 8).toNat with
  | none=>exact rfl
  | some v=>exact⟨ne (mem_bytes hw).2.1,load_ok f h.bytes hw hr,h⟩
 | store o a c ha ka kc hw =>
  have q:exec f pick x s=match store s.mem (s.get a) (s.get c) (kind f c / 8).toNat with|none=>(.fin undefd,s)|some m=>(.on,{s with mem:=m}):=by unfold exec;simp[o,ha]<;>rfl
  rw[q]
  cases hr:store s.mem (s.get a) (s.get c) (kind f c / 8).toNat with
  | none=>exact rfl
  | some m=>exact⟨hw,h.like (store_like hr)⟩
 | phi o=>exact absurd o ho
 | jump o ha t ht hw =>
  simp[exec,o,ha,ht];exact⟨hw,rfl,by simp[ht]⟩
 | branch o a ha ka t u ht hw =>
  have g:=j a (by simp[ha]) (by omega);rw[ka]at g;obtain⟨E,A⟩:=(g.num (by unfold Wd.Wid;decide)).2;have B:Wd.sz 1=2:=by decide
  rw[B]at A;simp[exec,o,ha,ht];split
  ·exact rfl
  ·rcases (by omega:(s.get a).n=0\/(s.get a).n=1) with q|q
   ·rw[q];exact⟨hw,rfl,by simp[ht]⟩
   ·rw[q];exact⟨hw,rfl,by simp[ht]⟩
 | ret0 o ha hr hw=>simp[exec,o,ha];exact rfl
 | ret o a ha ka hr hw=>simp[exec,o,ha];exact rfl
 | trap o ha hw=>simp[exec,o,ha];exact rfl
end
end Rn
end
section
namespace Rn
open Ref
theorem phis_front:∀(l:List Ins)(p:Bool),laidFrom l p=true->(p=true->∀i x,l[i]?=some x->(x.op=28↔i<(phis l).length))/\(p=false->∀x∈l,x.op≠28)
 | [],p,_=>⟨fun _ i x h=>by simp at h,fun _ x h=>by simp at h⟩
 | y::r,p,h=>by
  rw[laidFrom]at h
  simp only[tD,Bool.or_eq_true,decide_eq_true_eq]at h
  obtain⟨⟨B,m⟩,t⟩:=h
  obtain⟨z,A⟩:=phis_front r _ t;by_cases g:y.op=28
  ·have u:p=true:=m.resolve_left fun q=>q g;refine⟨fun _ i x d=>?_,fun q=>by rw[u]at q;cases q⟩;have e:(phis (y::r)).length=(phis r).length+1:=by simp[phis,List.takeWhile_cons,g]
   rw[e]
   cases i with
   | zero=>simp at d;subst d;simp[g]
   | succ i=>have:=z (by simpa using g) i x (by simpa using d);omega
  ·have j:=A (by simpa using g);refine⟨fun _ i x d=>?_,fun _ x d=>?_⟩
   ·have e:(phis (y::r)).length=0:=by simp[phis,List.takeWhile_cons,g]
    rw[e]
    have:x.op≠28:=by
     cases i with
     | zero=>simp at d;subst d;exact g
     | succ i=>exact j x (sS (by simpa using d))
    omega
   ·rcases List.mem_cons.1 d with rfl|d
    ·exact g
    ·exact j x d
theorem val_laid {f:Fn}(hv:Val f){l:List Ins}(hl:l∈f.blocks):l≠[]/\laidFrom l true=true:=by have:=hv.laid l hl;unfold Ref.laid at this;rw[tD]at this;refine⟨fun h=>?_,this.2⟩;rw[h]at this;simp at this
theorem phi_iff {f:Fn}(hv:Val f){l:List Ins}(hl:l∈f.blocks){i:Nat}{x:Ins}(hx:l[i]?=some x):x.op=28↔i<(phis l).length :=
 (phis_front l true (val_laid hv hl).2).1 rfl i x hx
theorem last_iff {f:Fn}(hv:Val f){l:List Ins}(hl:l∈f.blocks){i:Nat}{x:Ins}(hx:l[i]?=some x):isLast x.op=true↔i+1=l.length:=by
 have d:=(sR.1 hx).1
 have e:l=l.take i++x::l.drop (i+1):=by
  conv=>lhs;rw[<-List.take_append_drop i l]
  rw[tl d,(sR.1 hx).2]
 have:=laid_at (l.take i) true x (l.drop (i+1)) (by rw[<-e];exact(val_laid hv hl).2);rw[this,List.isEmpty_iff,List.drop_eq_nil_iff];omega
theorem phis_mem {l:List Ins}{x:Ins}(h:x∈phis l):x∈l/\x.op=28:=by refine⟨List.takeWhile_subset _ h,?_⟩;have:=List.all_takeWhile (p:=fun x:Ins=>decide (x.op=28)) (l:=l);rw[tu]at this;simpa using this x h
structure Ent (f:Fn)(b:Nat)(frm:Int)(l:List Ins)(s:St):Prop extends Mid f b 0 l s where
 phi:∀x∈phis l,frm∈x.to/\x.args.length=x.to.length/\(0<=x.args.getD (x.to.idxOf frm) 0/\x.args.getD (x.to.idxOf frm) 0<count f)/\VOK f x.width (phiRead s frm x)/\x.width≠0
section
variable {f:Fn}{b:Nat}{l:List Ins}{s:St}
theorem enter (hA:RcAll)(hv:Val f)(hi:Im f)(h:Mid f b l.length l s)(hl:f.blocks[b]?=some l){t:Nat}{m:List Ins}(ht:(t:Int)∈(graph f).getD b [])(hm:f.blocks[t]?=some m):Ent f t b m s:=by
 have B:rc (graph f) (-1) t:=by
  have:=(hv.rc hA (-1)).step b t h.rch ht (by omega)
  rwa [tc]at this
 refine {toInv:=h.toInv,rch:=B,dom:=?_,here:=fun j x C=>by omega,phi:=?_}
 ·intro a k g K z;by_cases e:a=b
  ·subst e;rw[hl]at g;injection g with g;subst g;exact fun j x C G=>h.here j x (sR.1 C).1 C G
  ·refine h.dom a k g e ?_;unfold dominates at z ⊢;rw[Bool.or_eq_true]at z ⊢;right;have z:=z.resolve_left (by simp;omega)
   cases hb:(reached (graph f) (a:Int)).getD (b:Int).toNat false with
   | false=>rfl
   | true =>
    rw[tc]at hb;have:=(hv.rc hA (a:Int)).step b t hb ht (by omega);unfold rc at this;rw[tc]at this;rw[tc,this]at z;cases z
 ·intro x G;obtain⟨r,E⟩:=phis_mem G;obtain⟨N,O,P,Q⟩:=phi_parts hv hm r E
  have u:(b:Int)∈x.to:=by rw[hv.phi t m hm x r E,mem_before];refine⟨b,(graph f).getD b [],getD_graph hv (sR.1 hl).1,ht,rfl⟩
  have g:=List.idxOf_lt_length_of_mem u;obtain⟨k,p⟩:=xJ (x.to.idxOf (b:Int))
  have F:x.to[k]?=some (b:Int):=by subst p;rw[sQ g];exact congrArg some (List.getElem_idxOf g)
  rw[p]at g;obtain⟨v,y⟩:∃v,x.args[k]?=some v:=⟨_,sQ (by omega)⟩;have I:x.args.getD k 0=v:=by rw[sU,y];rfl
  obtain⟨D,L⟩:kind f v=x.width/\(Wd.Wid x.width\/x.width=33):=by
   cases shp hv hi (sS hm) r with
   | phi o q1 q2 q3=>exact⟨q2 v (sS y),q3⟩
   | _=>all_goals omega
  have M:0<x.width:=L.elim (fun q=>by have:=q.1;omega) (fun q=>by omega);have J:=kind_pos (f:=f) (v:=v) (by omega);obtain⟨i,H⟩:=List.getElem?_of_mem r;have d:=hv.st t m hm B i x H k v y;unfold argOk at d;rw[tB E,show x.to.getD k 0=(b:Int) by rw[sU,F];rfl,tc,Bool.or_eq_true]at d;have d:=d.resolve_left (by rw[show (reached (graph f) (-1)).getD b false=true from h.rch];simp);have A:=(h.ok _ (there_had h hl d (.inr ⟨rfl,rfl⟩) (by omega))).1;rw[show ((v.toNat:Nat):Int)=v by omega,D]at A;rw[p,I];refine⟨u,N,J,?_,by omega⟩;unfold phiRead;rw[p,I];exact A
theorem leave (hA:RcAll)(hv:Val f)(hi:Im f){i:Nat}(h:Mid f b i l s)(hl:f.blocks[b]?=some l){x:Ins}(hx:l[i]?=some x)(ho:x.op≠28)(hw:x.width=0){t:Int}(ht:t∈x.to):∃m,0<=t/\f.blocks[t.toNat]?=some m/\Ent f t.toNat b m s/\i+1=l.length:=by
 have d:=sS hl;have g:=sS hx;have A:=to_graph hv hl g ho ht;have q:=to_last hv d g ho ht;have u:=((argument_iff f x).1 (hv.arg l d x g)).2.2.1 t ht
 have j:i+1=l.length:=by refine(last_iff hv d hx).1 ?_;obtain⟨z,p,B⟩:=laid_last l true (val_laid hv d).1 (val_laid hv d).2;rw[q]at p;injection p with p;rw[p];exact B
 obtain⟨m,y⟩:∃m,f.blocks[t.toNat]?=some m:=⟨_,sQ (by omega)⟩;refine⟨m,u.1,y,?_,j⟩;have r:=h.skip hx hw;rw[j]at r;exact enter hA hv hi r hl (by rw[Int.toNat_of_nonneg u.1];exact A) y
theorem phi_set (hv:Val f){frm:Int}{s0:St}(he:Ent f b frm l s0){i:Nat}(h:Mid f b i l s)(hl:f.blocks[b]?=some l){x:Ins}(hx:l[i]?=some x)(ho:i<(phis l).length) :
  Mid f b (i+1) l (s.set (Ref.number f b+i) (((phis l).map (phiRead s0 frm)).getD i zero)):=by
 have d:(phis l)[i]?=some x:=by have:phis l <+: l:=List.takeWhile_prefix _;rw[List.prefix_iff_getElem?]at this;have q:=this i ho;rw[sQ ho];rw[hx]at q;exact q.symm
 have g:=he.phi x (sS d)
 have e:((phis l).map (phiRead s0 frm)).getD i zero=phiRead s0 frm x:=by rw[sU,td,d];rfl
 rw[e];exact h.set hl hx g.2.2.2.2 g.2.2.2.1
theorem phis_le (l:List Ins):(phis l).length<=l.length:=(List.takeWhile_prefix _).length_le
end
theorem valid_input {f:Fn}{i:Inp}(h:validInput f i=0):Val f/\i.args.length=f.params.length/\i.mem.map (fun r=>(r.length:Int))=f.slots/\(∀v:Nat,∀w a,f.params[v]?=some w->i.args[v]?=some a->a<Wd.sz w)/\∀r∈i.mem,∀b∈r,-1<=b/\b<=255:=by
 unfold validInput at h;split at h;next h1=>exact absurd h h1
 next h1 =>
  split at h
  ·cases h
  next h2 =>
   split at h
   ·cases h
   next h3 =>
    split at h
    ·cases h
    next h4 =>
     simp only[tP,not_exists,not_and,decide_eq_true_eq,Bool.or_eq_true,not_or]at h3 h4;have hlen:i.args.length=f.params.length/\i.mem.length=f.slots.length:=by omega
     refine⟨(val_iff f).1 (Decidable.not_not.1 h1),hlen.1,?_,?_,?_⟩
     ·apply List.ext_getElem?;intro k;rw[td];rcases tF k i.mem.length with d|d
      ·have g:=h4 (f.slots[k]'(by omega),i.mem[k]) (by
          rw[List.mem_iff_getElem?]
          exact⟨k,by rw[List.getElem?_zip_eq_some];exact⟨sQ (by omega),sQ d⟩⟩)
       rw[sQ d,sQ (by omega)];have:=g.1;simp at this;exact congrArg some this
      ·rw[tp d,tp (by omega)];rfl
     ·intro v w a q j
      have:=h3 (w,a) (by
        rw[List.mem_iff_getElem?]
        exact⟨v,by rw[List.getElem?_zip_eq_some];exact⟨q,j⟩⟩)
      dsimp only at this;omega
     ·intro r p b l;obtain⟨k,d⟩:=List.getElem?_of_mem p;have m:=(sR.1 d).1
      have g:=(h4 (f.slots[k]'(by omega),r) (by
          rw[List.mem_iff_getElem?]
          exact⟨k,by rw[List.getElem?_zip_eq_some];exact⟨sQ (by omega),d⟩⟩)).2 b l
      omega
theorem start_had (f:Fn)(i:Inp)(v:Nat):Had (start f i) v↔v<i.args.length:=by
 unfold Had start;rw[sU,List.getElem?_append,td,tt];split;next h=>simp[sQ h,h]
 next h =>
  rw[tr];split<;>simp<;>omega
theorem start_get (f:Fn)(i:Inp)(v:Nat):(start f i).get v=if v<i.args.length then word (i.args.getD v 0) else zero:=by
 unfold St.get start;rw[tc,sU,List.getElem?_append,td,tt];split;next h=>simp[sQ h]
 next h =>
  rw[tr];split<;>rfl
theorem start_ent (hA:RcAll){f:Fn}{i:Inp}(h:validInput f i=0)(ha:∀a∈i.args,0<=a):∃l,f.blocks[0]?=some l/\Ent f 0 (-1) l (start f i):=by
 obtain⟨hv,J,D,E,F⟩:=valid_input h;obtain⟨l,u⟩:∃l,f.blocks[0]?=some l:=⟨_,sQ (by have:=hv.size;omega)⟩;have K:f.params.length<=count f:=by unfold count Ref.number;omega
 refine⟨l,u,{len:=?_,hlen:=?_,ok:=?_,zero:=?_,mem:=D,bytes:=F,par:=fun v hv=>(start_had f i v).2 (by omega),rch:=(hv.rc hA (-1)).root (by decide),dom:=?_,here:=fun j x hj=>by omega,phi:=?_}⟩
 ·simp[start];omega
 ·simp[start];omega
 ·intro v p;have y:=(start_had f i v).1 p;obtain⟨w,z⟩:∃w,f.params[v]?=some w:=⟨_,sQ (by omega)⟩;obtain⟨a,g⟩:∃a,i.args[v]?=some a:=⟨_,sQ (by omega)⟩
  have G:kind f (v:Int)=w:=by unfold kind;rw[tC (by omega),tB (by omega),tc,sU,z];rfl
  have d:Wd.Wid w:=wid_of (tu.1 hv.head.1 w (sS z));rw[start_get,tB y,sU,g,G];exact⟨vok_word f d ⟨ha a (sS g),E v w a z g⟩,by have:=d.1;omega⟩
 ·intro v p;rw[start_get,tC fun q=>p ((start_had f i v).2 q)]
 ·intro a m L H r;exfalso;unfold dominates at r;rw[Bool.or_eq_true]at r;have r:=r.resolve_left (by simp;omega);have:=(hv.rc hA (a:Int)).root (by omega);unfold rc at this;rw[show ((0:Nat):Int).toNat=0 from rfl,this]at r;cases r
 ·intro x I;exfalso;obtain⟨t,B⟩:=phis_mem I;obtain⟨A,C,M,N⟩:=phi_parts hv u t B;have:=hv.phi 0 l u x t B;rw[show ((0:Nat):Int)=0 from rfl,hv.entry]at this;rw[this]at A;simp at A;rw[A]at C;simp at C
end Rn
end
section
namespace Rn
open Ref
theorem exec_widths (f:Fn)(pick:Pick)(x:Ins)(s:St):(exec f pick x s).2.widths=s.widths\/(exec f pick x s).2.widths=s.widths++[x.width]:=by
 unfold exec;dsimp only;by_cases g:x.op=29
 ·rw[tB g];exact .inl rfl
 rw[tC g];by_cases j:x.op=30
 ·rw[tB j];split<;>exact .inl rfl
 rw[tC j];by_cases l:x.op=31
 ·rw[tB l];exact .inl rfl
 rw[tC l];by_cases m:x.op=32
 ·rw[tB m];exact .inl rfl
 rw[tC m];by_cases p:x.op=26
 ·rw[tB p];split<;>exact .inl rfl
 rw[tC p];by_cases q:x.op=27
 ·rw[tB q];split<;>exact .inl rfl
 rw[tC q];by_cases r:x.op=21
 ·rw[tB r];split
  ·exact .inr rfl
  ·exact .inl rfl
 rw[tC r];by_cases t:x.op=23
 ·rw[tB t];exact .inr rfl
 rw[tC t];by_cases u:x.op=15
 ·rw[tB u];split<;>exact .inl rfl
 rw[tC u];by_cases d:1<=x.op/\x.op<=13
 ·rw[tB d];split<;>exact .inl rfl
 rw[tC d];split<;>exact .inl rfl
theorem exec_prefix (f:Fn)(pick:Pick)(x:Ins)(s:St):s.widths <+: (exec f pick x s).2.widths:=by
 rcases exec_widths f pick x s with h|h
 ·rw[h];exact List.prefix_refl _
 ·rw[h];exact List.prefix_append _ _
theorem exec_det {pick pick':Pick}{K:Nat}(h:∀j,j<K->∀n,pick j n=pick' j n)(f:Fn)(x:Ins)(s:St) :
  exec f pick x s=exec f pick' x s\/(K<=s.widths.length/\(exec f pick x s).2.widths=s.widths++[x.width]/\(exec f pick' x s).2.widths=s.widths++[x.width]):=by
 rcases tF s.widths.length K with l|l
 ·left;have e:∀n,chosen pick s n=chosen pick' s n:=fun n=>by unfold chosen;rw[h _ l]
  unfold exec;dsimp only;simp only[e]
 ·by_cases d:x.op=23\/(x.op=21/\((x.args.map s.get).getD 0 zero).p=true)
  ·right;refine⟨l,?_,?_⟩
   ·unfold exec;dsimp only;rcases d with o|⟨o,p⟩
    ·simp[o,St.chose]
    ·simp only[o,p];simp[St.chose]
   ·unfold exec;dsimp only;rcases d with o|⟨o,p⟩
    ·simp[o,St.chose]
    ·simp only[o,p];simp[St.chose]
  ·left;unfold exec;dsimp only;by_cases g:x.op=21
   ·have m:¬((x.args.map s.get).getD 0 zero).p=true:=fun q=>d (.inr ⟨g,q⟩);rw[tC (by omega),tC (by omega),tC (by omega),tC (by omega),tC (by omega),tC (by omega),tB g,tC m,tC (by omega),tC (by omega),tC (by omega),tC (by omega),tC (by omega),tC (by omega),tB g,tC m]
   ·have r:x.op≠23:=fun q=>d (.inl q);simp[g,r]
def Det (K:Nat){α:Type}(r r':α × St):Prop:=r=r'\/∃ws:List Int,K<ws.length/\ws <+: r.2.widths/\ws <+: r'.2.widths
theorem runIns_prefix (f:Fn)(pick:Pick)(reads:List V):∀(l:List Ins)(i v:Nat)(s:St),s.widths <+: (runIns f pick reads l i v s).2.widths
 | [],i,v,s=>List.prefix_refl _
 | x::r,i,v,s=>by
  unfold runIns
  split
  ·exact List.prefix_refl _
  ·split
   ·exact runIns_prefix f pick reads r (i+1) (v+1) (s.tick.set v (reads.getD i zero))
   ·have d:=exec_prefix f pick x s.tick
    split;next y s' e=>rw[e]at d;exact d.trans (runIns_prefix f pick reads r (i+1) (v+1) (s'.set v y))
    next s' e=>rw[e]at d;exact d.trans (runIns_prefix f pick reads r (i+1) (v+1) s')
    next t s' e=>rw[e]at d;exact d
    next o s' e=>rw[e]at d;exact d
theorem step_prefix (f:Fn)(pick:Pick)(reads:List V)(x:Ins)(r:List Ins)(i v:Nat)(s:St)(h1:s.steps≠400)(h2:¬i<reads.length):(exec f pick x s.tick).2.widths <+: (runIns f pick reads (x::r) i v s).2.widths:=by
 rw[runIns,tC h1,tC h2];split;next y s' e=>rw[e];exact runIns_prefix f pick reads r (i+1) (v+1) (s'.set v y)
 next s' e=>rw[e];exact runIns_prefix f pick reads r (i+1) (v+1) s'
 next t s' e=>rw[e];exact List.prefix_refl _
 next o s' e=>rw[e];exact List.prefix_refl _
theorem runIns_det {pick pick':Pick}{K:Nat}(h:∀j,j<K->∀n,pick j n=pick' j n)(f:Fn)(reads:List V):∀(l:List Ins)(i v:Nat)(s:St),Det K (runIns f pick reads l i v s) (runIns f pick' reads l i v s)
 | [],i,v,s=>.inl rfl
 | x::r,i,v,s=>by
  by_cases h1:s.steps=400
  ·left
   rw[runIns,runIns,tB h1,tB h1]
  by_cases h2:i<reads.length
  ·rw[runIns,runIns,tC h1,tC h1,tB h2,tB h2]
   exact runIns_det h f reads r (i+1) (v+1) _
  rcases exec_det h f x s.tick with e|⟨hk,e1,e2⟩
  ·rw[runIns,runIns,tC h1,tC h1,tC h2,tC h2,e]
   cases hq:exec f pick' x s.tick with
   | mk q s' =>
    cases q with
    | val y=>exact runIns_det h f reads r (i+1) (v+1) (s'.set v y)
    | on=>exact runIns_det h f reads r (i+1) (v+1) s'
    | go t=>exact .inl rfl
    | fin o=>exact .inl rfl
  ·refine .inr ⟨s.tick.widths++[x.width],by rw[tT];simp;omega,?_,?_⟩
   ·rw[<-e1];exact step_prefix f pick reads x r i v s h1 h2
   ·rw[<-e2];exact step_prefix f pick' reads x r i v s h1 h2
theorem block_det {pick pick':Pick}{K:Nat}(h:∀j,j<K->∀n,pick j n=pick' j n)(f:Fn)(b:Nat)(frm:Int)(s:St):Det K (block f pick b frm s) (block f pick' b frm s):=runIns_det h f _ _ _ _ _
theorem block_prefix (f:Fn)(pick:Pick)(b:Nat)(frm:Int)(s:St):s.widths <+: (block f pick b frm s).2.widths:=runIns_prefix f pick _ _ _ _ _
theorem from_prefix (f:Fn)(pick:Pick):∀(k b:Nat)(frm:Int)(s:St),s.widths <+: (from_ f pick k b frm s).2.1.widths
 | 0,_,_,_=>List.prefix_refl _
 | k+1,b,frm,s=>by
  have d:=block_prefix f pick b frm s
  unfold from_
  cases hq:block f pick b frm s with
  | mk q s' =>
   rw[hq]at d
   cases q with
   | over o=>exact d
   | run t=>exact d.trans (from_prefix f pick k t.toNat b s')
theorem from_det {pick pick':Pick}{K:Nat}(h:∀j,j<K->∀n,pick j n=pick' j n)(f:Fn):∀(k b:Nat)(frm:Int)(s:St),
  from_ f pick k b frm s=from_ f pick' k b frm s\/∃ws:List Int,K<ws.length/\ws <+: (from_ f pick k b frm s).2.1.widths/\ws <+: (from_ f pick' k b frm s).2.1.widths
 | 0,_,_,_=>.inl rfl
 | k+1,b,frm,s=>by
  have d:∀(g:Pick),(block f g b frm s).2.widths <+: (from_ f g (k+1) b frm s).2.1.widths:=fun g=>by
   rw[from_]
   cases hq:block f g b frm s with
   | mk q s' =>
    cases q with
    | over o=>exact List.prefix_refl _
    | run t=>exact from_prefix f g k t.toNat b s'
  rcases block_det h f b frm s with e|⟨ws,l,m,p⟩
  ·rw[from_,from_,e]
   cases hq:block f pick' b frm s with
   | mk q s' =>
    cases q with
    | over o=>exact .inl rfl
    | run t =>
     rcases from_det h f k t.toNat b s' with r|⟨ws,l,m,p⟩
     ·left;dsimp only;rw[r]
     ·exact .inr ⟨ws,l,m,p⟩
  ·exact .inr ⟨ws,l,m.trans (d pick),p.trans (d pick')⟩
theorem run_det {pick pick':Pick}{K:Nat}(h:∀j,j<K->∀n,pick j n=pick' j n)(f:Fn)(i:Inp) :
  run f pick i=run f pick' i\/∃ws:List Int,K<ws.length/\ws <+: (run f pick i).2.1.widths/\ws <+: (run f pick' i).2.1.widths:=from_det h f 401 0 (-1) (start f i)
end Rn
end
section
namespace Rn
open Ref
theorem exec_ways (f:Fn)(pick:Pick)(x:Ins)(s:St)(M:Res × St->Prop)(hgo:∀t,M (.go t,s))(hfin:M (.fin undefd,s))(hret:x.op=31->M (.fin ⟨0,(x.args.map s.get).getD 0 zero,s.mem⟩,s))(hval:∀v,M (.val v,s))
  (hon:∀m,M (.on,{s with mem:=m})) (hch:∀v,M (.val v,s.chose x.width)):M (exec f pick x s):=by
 unfold exec;dsimp only;by_cases j:x.op=29
 ·rw[tB j];exact hgo _
 rw[tC j];by_cases l:x.op=30
 ·rw[tB l];split
  ·exact hfin
  ·exact hgo _
 rw[tC l];by_cases g:x.op=31
 ·rw[tB g];exact hret g
 rw[tC g];by_cases p:x.op=32
 ·rw[tB p];exact hfin
 rw[tC p];by_cases q:x.op=26
 ·rw[tB q];split
  ·exact hfin
  ·exact hval _
 rw[tC q];by_cases r:x.op=27
 ·rw[tB r];split
  ·exact hfin
  ·exact hon _
 rw[tC r];by_cases u:x.op=21
 ·rw[tB u];split
  ·exact hch _
  ·exact hval _
 rw[tC u];by_cases y:x.op=23
 ·rw[tB y];exact hch _
 rw[tC y];by_cases z:x.op=15
 ·rw[tB z];split<;>exact hval _
 rw[tC z];by_cases d:1<=x.op/\x.op<=13
 ·rw[tB d];split
  ·exact hfin
  ·exact hval _
 rw[tC d];split<;>exact hval _
theorem exec_steps (f:Fn)(pick:Pick)(x:Ins)(s:St):(exec f pick x s).2.steps=s.steps :=
 exec_ways f pick x s (fun r=>r.2.steps=s.steps) (fun _=>rfl) rfl (fun _=>rfl) (fun _=>rfl) (fun _=>rfl) (fun _=>rfl)
theorem runIns_steps (f:Fn)(pick:Pick)(rs:List V):∀(l:List Ins)(i v:Nat)(s:St),s.steps<=400 ->
  (runIns f pick rs l i v s).2.steps<=400/\s.steps<=(runIns f pick rs l i v s).2.steps/\(∀t,(runIns f pick rs l i v s).1=.run t->s.steps+1<=(runIns f pick rs l i v s).2.steps)
 | [],i,v,s,h=>⟨h,tS _,fun t q=>by simp[runIns]at q⟩
 | x::r,i,v,s,h=>by
  rw[runIns]
  split
  next h1=>exact⟨h,tS _,fun t q=>by cases q⟩
  next h1 =>
   split
   next h2 =>
    obtain⟨m,p,j⟩:=runIns_steps f pick rs r (i+1) (v+1) (s.tick.set v (rs.getD i zero)) (by show s.steps+1<=400;omega)
    have e:(s.tick.set v (rs.getD i zero)).steps=s.steps+1:=rfl;rw[e]at p j;exact⟨m,by omega,fun t q=>by have:=j t q;omega⟩
   next h2 =>
    have d:=exec_steps f pick x s.tick;have e:s.tick.steps=s.steps+1:=rfl;rw[e]at d;split
    next y s' hq =>
     rw[hq]at d;have g:s'.steps=s.steps+1:=d;obtain⟨m,p,j⟩:=runIns_steps f pick rs r (i+1) (v+1) (s'.set v y) (by show s'.steps<=400;omega);have u:(s'.set v y).steps=s'.steps:=rfl;rw[u]at p j;exact⟨m,by omega,fun t q=>by have:=j t q;omega⟩
    next s' hq =>
     rw[hq]at d;have g:s'.steps=s.steps+1:=d;obtain⟨m,p,j⟩:=runIns_steps f pick rs r (i+1) (v+1) s' (by omega);exact⟨m,by omega,fun t q=>by have:=j t q;omega⟩
    next t' s' hq =>
     rw[hq]at d;have g:s'.steps=s.steps+1:=d;exact⟨by show s'.steps<=400;omega,by show _<=s'.steps;omega,fun t q=>by show _<=s'.steps;omega⟩
    next o s' hq =>
     rw[hq]at d;have g:s'.steps=s.steps+1:=d;exact⟨by show s'.steps<=400;omega,by show _<=s'.steps;omega,fun t q=>by cases q⟩
theorem block_steps (f:Fn)(pick:Pick)(b:Nat)(frm:Int)(s:St)(h:s.steps<=400) :
  (block f pick b frm s).2.steps<=400/\s.steps<=(block f pick b frm s).2.steps/\(∀t,(block f pick b frm s).1=.run t->s.steps+1<=(block f pick b frm s).2.steps):=runIns_steps f pick _ _ _ _ _ h
def OutOf (f:Fn)(s:St)(o:Out):Prop :=
 (o.kind=0/\o.mem=s.mem/\o.ret.s=0/\0<=o.ret.n/\o.ret.n<4294967296)\/o=undefd\/o=long
theorem exec_fin (f:Fn)(pick:Pick)(x:Ins)(s:St){o:Out}(h:(exec f pick x s).1=.fin o):o=undefd\/(x.op=31/\o=⟨0,(x.args.map s.get).getD 0 zero,s.mem⟩):=by
 have:=exec_ways f pick x s (fun r=>∀o,r.1=.fin o->o=undefd\/(x.op=31/\o=⟨0,(x.args.map s.get).getD 0 zero,s.mem⟩))
  (fun _ o h=>by cases h) (fun o h=>by injection h with h;exact .inl h.symm) (fun e o h=>by injection h with h;exact .inr ⟨e,h.symm⟩) (fun _ o h=>by cases h) (fun _ o h=>by cases h) (fun _ o h=>by cases h)
 exact this o h
section
variable {f:Fn}{b:Nat}{l:List Ins}{pick:Pick}
theorem fin_ok (hv:Val f)(hi:Im f){i:Nat}{s:St}(h:Mid f b i l s)(hl:f.blocks[b]?=some l){x:Ins}(hx:l[i]?=some x)(ho:x.op≠28){o:Out}(hf:(exec f pick x s).1=.fin o):OutOf f s o:=by
 rcases exec_fin f pick x s hf with e|⟨e,rfl⟩
 ·exact .inr (.inl e)
 ·left
  cases shp hv hi (sS hl) (sS hx) with
  | ret0 o ha hr hw=>rw[ha];exact⟨rfl,rfl,rfl,Int.le_refl 0,by show (0:Int)<4294967296;decide⟩
  | ret o a ha ka hr hw =>
   have d:=arg_there hv h hl hx ho (v:=a) (by simp[ha]) (by have:=hr.1;omega);rw[ka]at d;obtain⟨j,g⟩:=d.num hr;have m:=Wd.sz_32 hr;rw[ha];exact⟨rfl,rfl,j,g.1,Int.lt_of_lt_of_le g.2 m⟩
  | _=>exfalso;omega
def BlockOk (f:Fn)(b:Nat):Nx × St->Prop
 | (.run t,s')=>∃m,0<=t/\f.blocks[t.toNat]?=some m/\Ent f t.toNat b m s'
 | (.over o,s')=>Inv f s'/\OutOf f s' o
theorem runIns_ok (hA:RcAll)(hv:Val f)(hi:Im f)(hpk:PickOk pick){frm:Int}{s0:St}(he:Ent f b frm l s0)(hl:f.blocks[b]?=some l) :
  ∀(r:List Ins)(k:Nat)(s:St),l.drop k=r->Mid f b k l s->BlockOk f b (runIns f pick ((phis l).map (phiRead s0 frm)) r k (Ref.number f b+k) s)
 | [],k,s,_,hm=>⟨hm.toInv,.inr (.inl rfl)⟩
 | x::r,k,s,hr,hm=>by
  have j:l[k]?=some x:=by
   have:(l.drop k)[0]?=some x:=by rw[hr];rfl
   rwa [List.getElem?_drop,Nat.add_zero]at this
  have g:l.drop (k+1)=r:=by rw[show k+1=k+1 from rfl,<-List.drop_drop,hr];rfl
  have p:Mid f b k l s.tick:=hm.like (like_tick s);rw[runIns];split;next h1=>exact⟨hm.toInv,.inr (.inr rfl)⟩
  next h1 =>
   split
   next h2 =>
    rw[tt]at h2;exact runIns_ok hA hv hi hpk he hl r (k+1) _ g (phi_set hv he p hl j h2)
   next h2 =>
    rw[tt]at h2;have A:x.op≠28:=fun q=>h2 ((phi_iff hv (sS hl) j).1 q);have d:=exec_ok hv hi hpk p hl j A;split
    next y s' hq =>
     rw[hq]at d;obtain⟨u,z,F⟩:=d;exact runIns_ok hA hv hi hpk he hl r (k+1) _ g (F.set hl j u z)
    next s' hq =>
     rw[hq]at d;obtain⟨u,z⟩:=d;exact runIns_ok hA hv hi hpk he hl r (k+1) _ g (z.skip j u)
    next t s' hq =>
     rw[hq]at d;obtain⟨u,rfl,z⟩:=d;obtain⟨m,C,D,E,-⟩:=leave hA hv hi p hl j A u z;exact⟨m,C,D,E⟩
    next o s' hq =>
     have B:=fin_ok (pick:=pick) hv hi p hl j A (o:=o) (by rw[hq]);rw[hq]at d;obtain rfl:=d;exact⟨p.toInv,B⟩
theorem block_ok (hA:RcAll)(hv:Val f)(hi:Im f)(hpk:PickOk pick){frm:Int}{s:St}(he:Ent f b frm l s)(hl:f.blocks[b]?=some l):BlockOk f b (block f pick b frm s):=by unfold block;rw[sU,hl];exact runIns_ok hA hv hi hpk he hl l 0 s rfl he.toMid
theorem from_ok (hA:RcAll)(hv:Val f)(hi:Im f)(hpk:PickOk pick):∀(n b:Nat)(frm:Int)(s:St)(l:List Ins),f.blocks[b]?=some l->Ent f b frm l s->s.steps<=400->401<=s.steps+n ->
  Inv f (from_ f pick n b frm s).2.1/\OutOf f (from_ f pick n b frm s).2.1 (from_ f pick n b frm s).1/\(from_ f pick n b frm s).2.1.steps<=400
 | 0,b,frm,s,l,_,_,h1,h2=>by omega
 | n+1,b,frm,s,l,hl,he,h1,h2=>by
  have d:=block_ok hA hv hi hpk he hl
  have g:=block_steps f pick b frm s h1;rw[from_]
  cases hq:block f pick b frm s with
  | mk q s' =>
   rw[hq]at d g
   cases q with
   | over o=>exact⟨d.1,d.2,g.1⟩
   | run t =>
    obtain⟨m,u,j,p⟩:=d;have r:s.steps+1<=s'.steps:=g.2.2 t rfl;exact from_ok hA hv hi hpk n t.toNat b s' m j p g.1 (by omega)
end
end Rn
end
section
namespace Rn
def wids (f:Fn)(i:Inp)(p:List Int):List Int:=(run f (given p) i).2.1.widths
def Good (f:Fn)(i:Inp)(p:List Int):Prop :=
 p.length<=(wids f i p).length/\∀j:Nat,j<p.length->0<=p.getD j 0/\p.getD j 0<Wd.sz ((wids f i p).getD j 0)
theorem good_nil (f:Fn)(i:Inp):Good f i []:=⟨tR _,fun j h=>absurd h (Nat.not_lt_zero _)⟩
theorem nextK_some (p w:List Int):∀(n k:Nat),nextK p w n=some k->k<n/\p.getD k 0+1<Wd.sz (w.getD k 0)
 | 0,k,h=>by simp[nextK]at h
 | n+1,k,h=>by
  rw[nextK]at h
  split at h
  next h1=>injection h with h;subst h;exact⟨Nat.lt_succ_self _,h1⟩
  next h1=>obtain⟨g,d⟩:=nextK_some p w n k h;exact⟨by omega,d⟩
theorem padded_len {p:List Int}{n:Nat}(h:p.length<=n):(padded p n).length=n:=by unfold padded;simp;omega
theorem padded_get (p:List Int)(n j:Nat):(padded p n).getD j 0=p.getD j 0:=by
 unfold padded;rw[sU,sU,List.getElem?_append];split
 ·rfl
 next h =>
  rw[tp (l:=p) (by omega),tr];split<;>rfl
theorem bump_len {p:List Int}{k:Nat}(h:k<p.length):(bump p k).length=k+1:=by unfold bump;simp;omega
theorem bump_lt {p:List Int}{k j:Nat}(h:k<p.length)(hj:j<k):(bump p k).getD j 0=p.getD j 0:=by unfold bump;rw[sU,te (by simp;omega),tk,tB hj,<-sU]
theorem bump_self {p:List Int}{k:Nat}(h:k<p.length):(bump p k).getD k 0=p.getD k 0+1:=by
 unfold bump;rw[sU,tj (by simp;omega)];have:k-(p.take k).length=0:=by simp;omega
 rw[this];rfl
theorem prefix_getD {a b:List Int}(h:a <+: b){j:Nat}(hj:j<a.length):b.getD j 0=a.getD j 0:=by obtain⟨t,rfl⟩:=h;rw[sU,sU,te hj]
theorem good_next {f:Fn}{i:Inp}{p:List Int}(h:Good f i p){k:Nat}(hk:nextK (padded p (wids f i p).length) (wids f i p) (wids f i p).length=some k) :
  Good f i (bump (padded p (wids f i p).length) k)/\(wids f i p).take (k+1) <+: wids f i (bump (padded p (wids f i p).length) k):=by
 obtain⟨u,D⟩:=nextK_some _ _ _ _ hk;have A:=padded_len h.1;have z:(bump (padded p (wids f i p).length) k).length=k+1:=bump_len (by rw[A];exact u);have g:∀j,j<k->(bump (padded p (wids f i p).length) k).getD j 0=p.getD j 0:=fun j m=>by rw[bump_lt (by rw[A];exact u) m,padded_get]
 have l:(bump (padded p (wids f i p).length) k).getD k 0=p.getD k 0+1:=by rw[bump_self (by rw[A];exact u),padded_get]
 rw[padded_get]at D;obtain⟨b,I⟩:=xJ (bump (padded p (wids f i p).length) k);rw[I]at z g l ⊢
 have r:∀j,0<=p.getD j 0:=fun j=>by
  rcases tF j p.length with q|q
  ·exact(h.2 j q).1
  ·rw[sU,tp q];exact Int.le_refl 0
 have y:∀j,j<k->∀n,given p j n=given b j n:=fun j m n=>by
  unfold given;rw[tB (show j<b.length by omega),g j m];split
  ·rfl
  next q=>rw[sU,tp (by omega)];simp
 have K:∃ws:List Int,k<ws.length/\ws <+: wids f i p/\ws <+: wids f i b:=by
  rcases run_det y f i with e|⟨ws,F,G,H⟩
  ·exact⟨wids f i p,u,List.prefix_refl _,by unfold wids;rw[e];exact List.prefix_refl _⟩
  ·exact⟨ws,F,G,H⟩
 obtain⟨ws,M,E,C⟩:=K;have d:∀j,j<=k->(wids f i b).getD j 0=(wids f i p).getD j 0:=fun j m=>by rw[prefix_getD E (by omega),prefix_getD C (by omega)]
 have L:=C.length_le;refine⟨⟨by omega,fun j m=>?_⟩,?_⟩
 ·rcases tF j k with q|q
  ·rw[g j q,d j (by omega)];refine⟨r j,?_⟩;rcases tF j p.length with B|B
   ·exact(h.2 j B).2
   ·rw[sU,tp B];exact Wd.sz_pos _
  ·obtain rfl:j=k:=by omega
   rw[l,d j (tS _)];exact⟨by have:=r j;omega,D⟩
 ·obtain⟨t,J⟩:=E;have e:(wids f i p).take (k+1)=ws.take (k+1):=by rw[<-J,List.take_append_of_le_length (by omega)]
  rw[e];exact(List.take_prefix _ _).trans C
theorem given_out {p:List Int}{j:Nat}(hj:p.length<=j)(n:Int):given p j n=0:=by unfold given;rw[tC (by omega)]
end Rn
end

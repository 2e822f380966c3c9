/- Parts. -/
import Derived.Test.YthfjdhanbegaoaaGreatDoorT23
set_option linter.unusedSimpArgs false
set_option linter.unusedVariables false
set_option maxRecDepth 100000
set_option maxHeartbeats 16000000
namespace Go.Proofs.YthfjdhanbegaoaaGreatDoor
section
namespace Tx
def Im (f:Fn):Prop:=∀l∈f.blocks,∀x∈l,Ok x.imm
theorem wid_ok {n:Int}(h:Ref.isWidth n=true):1<=n/\n<=32:=by unfold Ref.isWidth at h;simpa using h
theorem ite_or {c p q:Prop}[Decidable c](h:if c then p else q):(c/\p)\/(¬c/\q):=by
 by_cases d:c
 ·rw[pB d]at h;exact .inl ⟨d,h⟩
 ·rw[pC d]at h;exact .inr ⟨d,h⟩
theorem shape_pr {f:Fn}{x:Ins}(h:(Ref.shape f x).2.2=true):(0<=x.op/\x.op<=32)/\(0<=x.width/\x.width<=33)/\(0<=x.flags/\x.flags<=8)/\(numbered x.op=false->x.imm=0):=by
 simp only[Ref.shape,apply_ite Prod.snd,Bool.ite_eq_true_distrib,pD,Bool.or_eq_true,decide_eq_true_eq,Ref.plain,Ref.plain0,Ref.isWidth,Bool.false_eq_true]at h
 iterate 15
  rcases ite_or h with ⟨o,h⟩|⟨o,h⟩
  ·refine⟨by omega,by omega,by omega,fun j=>?_⟩;simp only[numbered,Bool.or_eq_false_iff,decide_eq_false_iff_not]at j;omega
 rcases ite_or h with ⟨o,h⟩|⟨o,h⟩
 ·obtain⟨g,d⟩:=h;refine⟨by omega,by omega,?_,fun _=>g.2⟩;simp only[Ref.arith,Ref.arith0,Bool.ite_eq_true_distrib,pD,Bool.or_eq_true,decide_eq_true_eq]at d;rcases ite_or d with ⟨_,d⟩|⟨_,d⟩
  ·omega
  rcases ite_or d with ⟨_,d⟩|⟨_,d⟩<;>omega
 ·exact h.elim
theorem kind_arg {f:Fn}{v:Int}(h:0<=Ref.kind f v):0<=v/\v<Ref.count f:=by
 unfold Ref.kind at h;split at h
 ·omega
 ·omega
theorem count_le {f:Fn}(h:Ref.Val f):Ref.count f<=43:=by have:=h.size;unfold Ref.count Ref.number;rw[pE];omega
theorem pr_of {f:Fn}(h:Ref.validate f=0)(hi:Im f):Pr f:=by
 have d:=(Ref.val_iff f).1 h;have j:=d.size;refine⟨fun n g=>?_,⟨d.ret.1,by have:=d.ret.2;omega⟩,fun n g=>?_,fun l hl x hx=>?_,⟨j.2.2.2.1,j.1,j.2.2.2.2⟩⟩
 ·have:=wid_ok (pw.1 d.head.1 n g);exact⟨by omega,by omega⟩
 ·have:=pw.1 d.head.2 n g;unfold Ref.isSlot at this;simp at this;exact⟨by omega,by omega⟩
 ·obtain⟨p,a2,a3,-⟩:=(Ref.argument_iff f x).1 (d.arg l hl x hx);obtain⟨p1,p2,p3,p4⟩:=shape_pr p;have m:=d.typ l hl x hx;unfold Ref.typed at m;simp only[pD]at m;have r:=count_le d;refine⟨p1,⟨p2.1,by omega⟩,⟨p3.1,by omega⟩,hi l hl x hx,p4,fun a q=>?_,fun t ht'=>?_⟩
  ·have:=kind_arg (by simpa using pw.1 m.1 a q);exact⟨this.1,by omega⟩
  ·have:=a3 t ht';exact⟨this.1,by omega⟩
def readP (s:S):Option Fn:=if s.getLast?=some 10 then (if (parsedP (cutS 10 s.dropLast)).2=false/\Ref.validate (parsedP (cutS 10 s.dropLast)).1=0/\textS (parsedP (cutS 10 s.dropLast)).1=s then some (parsedP (cutS 10 s.dropLast)).1 else none) else none
def readR (s:S):Option Fn:=if Ref.validate (parseR s)=0/\textS (parseR s)=s then some (parseR s) else none
theorem numP_ok (s:S):Ok (numP s).1:=by
 unfold numP;split
 next u h =>
  refine⟨by simp,?_⟩;unfold Lib.parseUintB at h;split at h
  ·cases h
  ·have g:∀(l:S)(d n:Nat),d<=4294967295->Lib.parseUintM 4294967295 d l=.ok n->n<=4294967295:=by
    intro l
    induction l with
    | nil =>
     intro d n j h;simp only[Lib.parseUintM,Lib.NumEnd.ok.injEq]at h;omega
    | cons c r ih =>
     intro d n j h;rw[Lib.parseUintM]at h;split at h
     ·split at h
      ·cases h
      ·split at h
       ·cases h
       ·exact ih _ n (by omega) h
     ·cases h
   have:=g s 0 u (by decide) h;show (u:Int)<_;omega
 ·exact⟨by decide,by decide⟩
 ·exact⟨by decide,by decide⟩
theorem numRf_ok:∀(s:S)(n:Int),0<=n->Ok (numRf n s)
 | [],n,h=>by unfold numRf;split<;>exact⟨by omega,by omega⟩
 | c::r,n,h=>by
  unfold numRf
  split
  ·exact⟨by omega,by omega⟩
  ·exact numRf_ok r _ (by omega)
theorem numR_ok (s:S):Ok (numR s):=numRf_ok s 0 (Int.le_refl 0)
theorem opOf_ok (s:S):0<=(opOf s).1/\(opOf s).1<=32:=by
 unfold opOf;split
 ·exact⟨by simp,by simp only[];omega⟩
 ·exact⟨by decide,by decide⟩
structure Fit (n:Nat)(x:Ins):Prop where
 op:0<=x.op/\x.op<=32
 width:Ok x.width
 flags:Ok x.flags
 imm:Ok x.imm
 args:∀a∈x.args,Ok a
 to:∀t∈x.to,Ok t
 size:x.args.length+x.to.length<=n
theorem Fit.mono {n m:Nat}{x:Ins}(h:Fit n x)(k:n<=m):Fit m x:=⟨h.op,h.width,h.flags,h.imm,h.args,h.to,Nat.le_trans h.size k⟩
theorem snoc_ok {l:List Int}{z:Int}(h:∀a∈l,Ok a)(hz:Ok z):∀a∈l++[z],Ok a:=fun a d=>by
 rcases pI.1 d with d|d
 ·exact h a d
 ·rw[List.mem_singleton.1 d];exact hz
theorem restP_fit:∀(ws:List S)(n:Nat)(x:Ins)(wr:Bool),Fit n x->Fit (n+ws.length) (restP ws x wr).1
 | [],n,x,wr,h=>h
 | s::r,n,x,wr,h=>by
  unfold restP
  rw[List.length_cons,show n+(r.length+1)=(n+1)+r.length by omega]
  split
  ·exact restP_fit r _ _ _ ⟨h.op,h.width,h.flags,numP_ok _,h.args,h.to,by have:=h.size;simp only;omega⟩
  split
  ·exact restP_fit r _ _ _ ⟨h.op,h.width,h.flags,h.imm,h.args,snoc_ok h.to (numP_ok _),by have:=h.size;simp only[pT,List.length_singleton];omega⟩
  ·exact restP_fit r _ _ _ ⟨h.op,h.width,h.flags,h.imm,snoc_ok h.args (numP_ok _),h.to,by have:=h.size;simp only[pT,List.length_singleton];omega⟩
theorem restR_fit:∀(ws:List S)(n:Nat)(x:Ins),Fit n x->Fit (n+ws.length) (restR ws x)
 | [],n,x,h=>h
 | s::r,n,x,h=>by
  unfold restR
  rw[List.length_cons,show n+(r.length+1)=(n+1)+r.length by omega]
  split
  ·exact restR_fit r _ _ ⟨h.op,h.width,h.flags,numR_ok _,h.args,h.to,by have:=h.size;simp only;omega⟩
  split
  ·exact restR_fit r _ _ ⟨h.op,h.width,h.flags,h.imm,h.args,snoc_ok h.to (numR_ok _),by have:=h.size;simp only[pT,List.length_singleton];omega⟩
  ·exact restR_fit r _ _ ⟨h.op,h.width,h.flags,h.imm,snoc_ok h.args (numR_ok _),h.to,by have:=h.size;simp only[pT,List.length_singleton];omega⟩
theorem ok0:Ok 0:=⟨by decide,by decide⟩
theorem flagsP_ok (c:S × S × Bool):Ok (flagsP c).1:=by
 unfold flagsP;split
 ·exact numP_ok _
 ·exact ok0
theorem nameP_fit (s:S):Fit 0 (nameP s).1:=⟨opOf_ok _,ok0,flagsP_ok _,ok0,(by intro a d;cases d),(by intro a d;cases d),pS 0⟩
theorem nameR_fit (s:S):Fit 0 (nameR s):=by
 refine⟨opOf_ok _,ok0,?_,ok0,(by intro a d;cases d),(by intro a d;cases d),pS 0⟩;unfold nameR;simp only;split
 ·exact numR_ok _
 ·exact ok0
theorem instP_fit (ws:List S):Fit ws.length (instP ws).1:=by
 unfold instP;split
 ·have h:=nameP_fit ((ws.drop 2).headD []);refine Fit.mono (restP_fit _ 0 _ _ ?_) ?_
  ·exact⟨h.op,numP_ok _,h.flags,h.imm,h.args,h.to,h.size⟩
  simp only[List.length_tail,List.length_drop];omega
 ·refine(restP_fit _ 0 _ _ (nameP_fit _)).mono ?_;simp only[List.length_tail];omega
theorem instR_fit (ws:List S):Fit ws.length (instR ws):=by
 unfold instR;split
 ·have h:=nameR_fit ((ws.drop 2).headD []);refine Fit.mono (restR_fit _ 0 _ ?_) ?_
  ·exact⟨h.op,numR_ok _,h.flags,h.imm,h.args,h.to,h.size⟩
  simp only[List.length_tail,List.length_drop];omega
 ·refine(restR_fit _ 0 _ (nameR_fit _)).mono ?_;simp only[List.length_tail];omega
theorem cutS_len (c:UInt8):∀s:S,(cutS c s).length<=s.length+1
 | []=>by simp[cutS]
 | b::r=>by
  have:=cutS_len c r
  unfold cutS;split
  ·simp;omega
  ·cases h:cutS c r with
   | nil=>simp
   | cons x y=>rw[h]at this;simp at this ⊢;omega
theorem cutS_mem (c:UInt8):∀(s:S),∀t∈cutS c s,t.length<=s.length
 | [],t,h=>by simp[cutS]at h;simp[h]
 | b::r,t,h=>by
  have ih:=cutS_mem c r
  unfold cutS at h;split at h
  ·rcases List.mem_cons.1 h with rfl|h
   ·simp
   ·have:=ih t h;simp;omega
  ·cases hc:cutS c r with
   | nil=>rw[hc]at h;simp at h;simp[h]
   | cons x y =>
    rw[hc]at h ih;rcases List.mem_cons.1 h with rfl|h
    ·have:=ih x (by simp);simp;omega
    ·have:=ih t (by simp[h]);simp;omega
structure FitF (n m:Nat)(f:Fn):Prop where
 ins:∀l∈f.blocks,∀x∈l,Fit m x
 blocks:f.blocks.length<=n
 block:∀l∈f.blocks,l.length<=n
theorem FitF.mono {n n' m:Nat}{f:Fn}(h:FitF n m f)(k:n<=n'):FitF n' m f:=⟨h.ins,Nat.le_trans h.blocks k,fun l d=>Nat.le_trans (h.block l d) k⟩
theorem FitF.open {n m:Nat}{f:Fn}(h:FitF n m f):FitF (n+1) m {f with blocks:=f.blocks++[[]]}:=by
 refine⟨fun l d x g=>?_,by have:=h.blocks;simp;omega,fun l d=>?_⟩
 ·rcases pI.1 d with d|d
  ·exact h.ins l d x g
  ·rw[List.mem_singleton.1 d]at g;cases g
 ·rcases pI.1 d with d|d
  ·have:=h.block l d;omega
  ·rw[List.mem_singleton.1 d];simp
theorem mem_addLast {bs:List (List Ins)}(hn:bs≠[]){x:Ins}{l:List Ins}(h:l∈addLast bs x):l∈bs\/∃k∈bs,l=k++[x]:=by
 unfold addLast at h;rcases pI.1 h with h|h
 ·exact .inl (List.dropLast_subset _ h)
 ·refine .inr ⟨bs.getLastD [],?_,List.mem_singleton.1 h⟩;rw[List.getLastD_eq_getLast?,List.getLast?_eq_some_getLast hn];exact List.getLast_mem hn
theorem FitF.add {n m:Nat}{f:Fn}(h:FitF n m f)(hn:f.blocks≠[]){x:Ins}(hx:Fit m x):FitF (n+1) m {f with blocks:=addLast f.blocks x}:=by
 refine⟨fun l d y g=>?_,?_,fun l d=>?_⟩
 ·rcases mem_addLast hn d with d|⟨k,j,rfl⟩
  ·exact h.ins l d y g
  ·rcases pI.1 g with g|g
   ·exact h.ins k j y g
   ·rw[List.mem_singleton.1 g];exact hx
 ·have:=h.blocks;have d:0<f.blocks.length:=List.length_pos_iff.2 hn;simp only[addLast,pT,List.length_dropLast,List.length_singleton];omega
 ·rcases mem_addLast hn d with d|⟨k,j,rfl⟩
  ·have:=h.block l d;omega
  ·have:=h.block k j;simp;omega
theorem linesP_fit (m:Nat):∀(ls:List S)(n:Nat)(f:Fn)(wr:Bool),(∀s∈ls,s.length+1<=m)->FitF n m f->FitF (n+ls.length) m (linesP ls f wr).1
 | [],n,f,wr,_,h=>h
 | s::r,n,f,wr,hs,h=>by
  unfold linesP
  rw[List.length_cons,show n+(r.length+1)=(n+1)+r.length by omega]
  split
  ·exact linesP_fit m r _ _ _ (fun t ht=>hs t (by simp[ht])) h.open
  split
  ·exact linesP_fit m r _ _ _ (fun t ht=>hs t (by simp[ht])) (h.mono (by omega))
  next hb=>exact linesP_fit m r _ _ _ (fun t ht=>hs t (by simp[ht])) (h.add hb ((instP_fit _).mono (Nat.le_trans (cutS_len 32 s) (hs s (by simp)))))
theorem linesR_fit (m:Nat):∀(ls:List S)(n:Nat)(f:Fn),(∀s∈ls,s.length+1<=m)->FitF n m f->FitF (n+ls.length) m (linesR ls f)
 | [],n,f,_,h=>h
 | s::r,n,f,hs,h=>by
  unfold linesR
  rw[List.length_cons,show n+(r.length+1)=(n+1)+r.length by omega]
  split
  ·exact linesR_fit m r _ _ (fun t ht=>hs t (by simp[ht])) (h.mono (by omega))
  split
  ·exact linesR_fit m r _ _ (fun t ht=>hs t (by simp[ht])) h.open
  split
  ·exact linesR_fit m r _ _ (fun t ht=>hs t (by simp[ht])) (h.mono (by omega))
  next hb=>exact linesR_fit m r _ _ (fun t ht=>hs t (by simp[ht])) (h.add hb ((instR_fit _).mono (Nat.le_trans (cutS_len 32 s) (hs s (by simp)))))
theorem headR_blocks:∀(ws:List S)(p:Nat)(f:Fn),(headR ws p f).blocks=f.blocks
 | [],p,f=>rfl
 | w::r,p,f=>by
  unfold headR
  split
  ·rw[headR_blocks r]
  split
  ·rw[headR_blocks r]
  split
  ·rw[headR_blocks r]
  ·rw[headR_blocks r]
theorem fit_none {n m:Nat}{f:Fn}(h:f.blocks=[]):FitF n m f:=⟨by rw[h];simp,by rw[h];simp,by rw[h];simp⟩
theorem tail_mem {α:Type}{l:List α}{x:α}(h:x∈l.tail):x∈l:=List.mem_of_mem_tail h
theorem parsedP_fit (s:S):FitF (s.length+1) (s.length+1) (parsedP (cutS 10 s)).1:=by unfold parsedP;have g:=cutS_len 10 s;refine(linesP_fit (s.length+1) _ 0 _ _ (fun t d=>by have:=cutS_mem 10 s t (tail_mem d);omega) (fit_none rfl)).mono ?_;simp only[List.length_tail];omega
theorem parseR_fit (s:S):FitF (s.length+1) (s.length+1) (parseR s):=by unfold parseR;have g:=cutS_len 10 s;refine(linesR_fit (s.length+1) _ 0 _ (fun t d=>by have:=cutS_mem 10 s t (tail_mem d);omega) (fit_none (by rw[headR_blocks];rfl))).mono ?_;simp only[List.length_tail];omega
theorem FitF.im {n m:Nat}{f:Fn}(h:FitF n m f):Im f:=fun l d x g=>(h.ins l d x g).imm
theorem readP_text {f:Fn}(h:Ref.validate f=0)(hi:Im f):readP (textS f)=some f:=by
 obtain⟨d,g⟩:=text_body f;unfold readP;have j:(textS f).getLast?=some 10:=by rw[g];simp
 have l:(textS f).dropLast=d:=by rw[g];simp
 have m:parsedP (cutS 10 d)=(f,false):=by rw[cut_body (pr_of h hi) g,parsedP_lines (pr_of h hi)]
 rw[pB j,l,m,pB ⟨rfl,h,rfl⟩]
theorem readR_text {f:Fn}(h:Ref.validate f=0)(hi:Im f):readR (textS f)=some f:=by unfold readR;rw[parseR_text (pr_of h hi),pB ⟨h,rfl⟩]
theorem readP_some {s:S}{f:Fn}(h:readP s=some f):Ref.validate f=0/\textS f=s/\Im f:=by
 unfold readP at h;split at h
 ·split at h
  next q =>
   injection h with h;subst h;exact⟨q.2.1,q.2.2,(parsedP_fit _).im⟩
  ·cases h
 ·cases h
theorem readR_some {s:S}{f:Fn}(h:readR s=some f):Ref.validate f=0/\textS f=s/\Im f:=by
 unfold readR at h;split at h
 next q =>
  injection h with h;subst h;exact⟨q.1,q.2,(parseR_fit _).im⟩
 ·cases h
theorem read_eq (s:S):readP s=readR s:=by
 cases h:readR s with
 | some f =>
  obtain⟨d,g,j⟩:=readR_some h;rw[<-g];exact readP_text d j
 | none =>
  cases h':readP s with
  | none=>rfl
  | some f =>
   obtain⟨d,g,j⟩:=readP_some h';rw[<-g,readR_text d j]at h;cases h
theorem read_iff {s:S}{f:Fn}:readP s=some f↔Ref.validate f=0/\textS f=s/\Im f :=
 ⟨readP_some,fun⟨d,g,j⟩=>by rw[<-g];exact readP_text d j⟩
theorem text_inj {f g:Fn}(hf:Ref.validate f=0)(hfi:Im f)(hg:Ref.validate g=0)(hgi:Im g)(h:textS f=textS g):f=g:=by have d:=readP_text hf hfi;rw[h,readP_text hg hgi]at d;injection d with d;exact d.symm
end Tx
end
section
namespace Tx
theorem insLines_len:∀(l:List Ins)(v:Int),(insLines l v).length=l.length
 | [],_=>rfl
 | x::r,v=>by rw[insLines,List.length_cons,insLines_len r,List.length_cons]
theorem linesFrom_len:∀(bs:List (List Ins))(b v:Int),(linesFrom bs b v).length=bs.length+Ref.total bs
 | [],_,_=>by simp[linesFrom,Ref.total]
 | l::r,b,v=>by rw[linesFrom,List.length_cons,pT,insLines_len,linesFrom_len r,Ref.total_cons,List.length_cons];omega
theorem linesS_len (f:Fn):(linesS f).length=1+f.blocks.length+Ref.total f.blocks:=by rw[linesS,List.length_cons,linesFrom_len];omega
def insNums:List Ins->Int->List Int
 | [],_=>[]
 | _::r,v=>v::insNums r (v+1)
def numsFrom:List (List Ins)->Int->List Int
 | [],_=>[]
 | l::r,v=>-1::(insNums l v++numsFrom r (v+l.length))
def numsL (f:Fn):List Int:=-1::numsFrom f.blocks f.params.length
theorem insNums_len:∀(l:List Ins)(v:Int),(insNums l v).length=l.length
 | [],_=>rfl
 | x::r,v=>by rw[insNums,List.length_cons,insNums_len r,List.length_cons]
theorem numsFrom_len:∀(bs:List (List Ins))(v:Int),(numsFrom bs v).length=bs.length+Ref.total bs
 | [],_=>by simp[numsFrom,Ref.total]
 | l::r,v=>by rw[numsFrom,List.length_cons,pT,insNums_len,numsFrom_len r,Ref.total_cons,List.length_cons];omega
theorem numsL_len (f:Fn):(numsL f).length=(linesS f).length:=by rw[linesS_len,numsL,List.length_cons,numsFrom_len];omega
def findL:List S->List Int->Int->Option S
 | s::ls,n::ns,v=>if n=v/\0<=v then some s else findL ls ns v
 | _,_,_=>none
theorem find_ins (ls:List S)(ns:List Int)(v:Int):∀(l:List Ins)(n:Int),0<=n->v<n\/n+l.length<=v->findL (insLines l n++ls) (insNums l n++ns) v=findL ls ns v
 | [],n,_,_=>rfl
 | x::r,n,h0,h=>by
  rw[List.length_cons]at h
  rw[insLines,insNums,List.cons_append,List.cons_append,findL,pC (by omega)]
  exact find_ins ls ns v r (n+1) (by omega) (by omega)
theorem find_ins_at (ls:List S)(ns:List Int):∀(l:List Ins)(n:Int)(i:Nat)(x:Ins),0<=n->l[i]?=some x->findL (insLines l n++ls) (insNums l n++ns) (n+i)=some (lineS x (n+i))
 | [],n,i,x,_,h=>by cases h
 | y::r,n,i,x,h0,h=>by
  rw[insLines,insNums,List.cons_append,List.cons_append,findL]
  cases i with
  | zero =>
   simp at h;subst h
   rw[pB (by simp;omega)];simp
  | succ i =>
   rw[pC (by push_cast;omega)]
   have:=find_ins_at ls ns r (n+1) i x (by omega) (by simpa using h)
   rw[show n+((i+1:Nat):Int)=n+1+(i:Int) by push_cast;omega];exact this
theorem find_none (v:Int):∀(bs:List (List Ins))(b n:Int),0<=n->v<n\/n+Ref.total bs<=v->findL (linesFrom bs b n) (numsFrom bs n) v=none
 | [],b,n,_,_=>rfl
 | l::r,b,n,h0,h=>by
  rw[Ref.total_cons]at h
  rw[linesFrom,numsFrom,findL,pC (by omega),find_ins _ _ v l n h0 (by push_cast at h;omega)]
  exact find_none v r (b+1) _ (by omega) (by push_cast at h;omega)
theorem find_at:∀(bs:List (List Ins))(b n:Int)(j i:Nat)(l:List Ins)(x:Ins),0<=n->bs[j]?=some l->l[i]?=some x->findL (linesFrom bs b n) (numsFrom bs n) (n+Ref.total (bs.take j)+i)=some (lineS x (n+Ref.total (bs.take j)+i))
 | [],b,n,j,i,l,x,_,h,_=>by simp at h
 | m::r,b,n,j,i,l,x,h0,h,hx=>by
  rw[linesFrom,numsFrom,findL,pC (by omega)]
  cases j with
  | zero =>
   simp at h;subst h
   have e:n+(Ref.total (List.take 0 (m::r)):Int)+(i:Int)=n+i:=by simp[Ref.total]
   rw[e];exact find_ins_at _ _ m n i x h0 hx
  | succ j =>
   have e:n+(Ref.total (List.take (j+1) (m::r)):Int)+(i:Int)=n+m.length+Ref.total (r.take j)+i:=by rw[pJ,Ref.total_cons];push_cast;omega
   rw[e,find_ins _ _ _ m n h0 (by omega)];exact find_at r (b+1) _ j i l x (by omega) (by simpa using h) hx
def lineOf (f:Fn)(v:Int):S × Int :=
 if Ref.validate f=0 then (if v<f.params.length\/(Ref.count f:Int)<=v then ([],4) else (lineS ((Ref.insAt? f (Ref.whereIs f v).1 (Ref.whereIs f v).2).getD ⟨0,0,0,[],0,[]⟩) v,0)) else ([],Ref.validate f)
theorem find_line {f:Fn}(h:Ref.validate f=0)(v:Int):lineOf f v=match findL (linesS f) (numsL f) v with
  | some s=>(s,0)
  | none=>([],4):=by
 unfold lineOf;have u:(Ref.count f:Int)=f.params.length+Ref.total f.blocks:=by unfold Ref.count Ref.number;rw[pE];omega
 have t:findL (linesS f) (numsL f) v=findL (linesFrom f.blocks 0 f.params.length) (numsFrom f.blocks f.params.length) v:=by rw[linesS,numsL,findL,pC (by omega)]
 rw[pB h,t];by_cases m:v<f.params.length\/(Ref.count f:Int)<=v
 ·rw[pB m,find_none v _ _ _ (by omega) (by omega)]
 ·rw[pC m];obtain⟨j,i,l,x,p,d,g,q⟩:=Ref.whereIs_some f v (by omega) (by omega);have r:Ref.insAt? f (Ref.whereIs f v).1 (Ref.whereIs f v).2=some x:=by rw[p];simp[Ref.insAt?,d,g]
  rw[r,q,find_at f.blocks 0 _ j i l x (by omega) d g];rfl
def diffP:List S->List S->Nat->Int × Bool
 | [],[],_=>(0,false)
 | a::azs,b::bs,i=>if a=b then diffP azs bs (i+1) else ((i:Int),true)
 | _,_,i=>((i:Int),true)
def diffR:List S->List S->Nat->Int × Bool
 | a::azs,b::bs,i=>if a=b then diffR azs bs (i+1) else ((i:Int),true)
 | _,_,_=>(0,false)
theorem diffP_self:∀(l:List S)(i:Nat),diffP l l i=(0,false)
 | [],_=>rfl
 | a::r,i=>by rw[diffP,pB rfl,diffP_self r]
theorem diff_eq:∀(k l:List S)(i:Nat),k≠l->(∀s∈k,s≠[])->(∀s∈l,s≠[])->diffR (k++[[]]) (l++[[]]) i=diffP k l i/\(diffP k l i).2=true
 | [],[],i,h,_,_=>absurd rfl h
 | [],b::bs,i,_,_,h2=>by
  rw[List.nil_append,List.cons_append,diffR,pC (fun e=>h2 b (by simp) e.symm),diffP]
  exact⟨rfl,rfl⟩
  all_goals simp
 | a::azs,[],i,_,h1,_=>by
  rw[List.nil_append,List.cons_append,diffR,pC (h1 a (by simp)),diffP]
  exact⟨rfl,rfl⟩
  all_goals simp
 | a::azs,b::bs,i,h,h1,h2=>by
  rw[List.cons_append,List.cons_append,diffR,diffP]
  by_cases e:a=b
  ·rw[pB e,pB e]
   exact diff_eq azs bs (i+1) (fun e'=>h (by rw[e,e'])) (fun s hs=>h1 s (by simp[hs])) (fun s hs=>h2 s (by simp[hs]))
  ·rw[pC e,pC e];exact⟨rfl,rfl⟩
theorem insLines_ne:∀(l:List Ins)(v:Int),0<=v->(∀x∈l,PrI x)->∀s∈insLines l v,s≠[]
 | [],v,_,_,s,hs=>by cases hs
 | x::r,v,hv,h,s,hs=>by
  rcases List.mem_cons.1 hs with rfl|hs
  ·exact(unw_last (wordsI_ne x v) (words_colon (h x (by simp)) hv)).1
  ·exact insLines_ne r (v+1) (by omega) (fun y hy=>h y (by simp[hy])) s hs
theorem linesFrom_ne:∀(bs:List (List Ins))(b v:Int),0<=v->(∀l∈bs,∀x∈l,PrI x)->∀s∈linesFrom bs b v,s≠[]
 | [],b,v,_,_,s,hs=>by cases hs
 | l::r,b,v,hv,h,s,hs=>by
  rcases List.mem_cons.1 hs with rfl|hs
  ·simp
  ·rcases pI.1 hs with hs|hs
   ·exact insLines_ne l v hv (h l (by simp)) s hs
   ·exact linesFrom_ne r (b+1) _ (by omega) (fun m hm=>h m (by simp[hm])) s hs
theorem linesS_ne {f:Fn}(h:Pr f):∀s∈linesS f,s≠[]:=by
 intro s d;rcases List.mem_cons.1 d with rfl|d
 ·unfold headW unw;simp
 ·exact linesFrom_ne _ _ _ (by omega) h.ins s d
def countS (s:S):Int × Int:=match readP s with
 | some f=>((linesS f).length,0)
 | none=>(0,2)
def differS (s t:S):Int × Bool × Int:=match readP s,readP t with
 | some f,some g=>((diffP (linesS f) (linesS g) 0).1,(diffP (linesS f) (linesS g) 0).2,0)
 | _,_=>(0,false,2)
theorem cut_of {s:S}{f:Fn}(h:readP s=some f):cutS 10 s=linesS f++[[]]:=by obtain⟨d,g,j⟩:=read_iff.1 h;rw[<-g];exact cut_text (pr_of d j)
theorem differ_eq {s:S}{f g:Fn}(h:readP s=some f)(h':readP s=some g):diffP (linesS f) (linesS g) 0=(0,false):=by rw[h]at h';cases h';exact diffP_self _ _
theorem differ_ne {s t:S}{f g:Fn}(h:readP s=some f)(h':readP t=some g)(hn:s≠t):diffR (cutS 10 s) (cutS 10 t) 0=diffP (linesS f) (linesS g) 0/\(diffP (linesS f) (linesS g) 0).2=true:=by rw[cut_of h,cut_of h'];obtain⟨d,j,l⟩:=read_iff.1 h;obtain⟨m,p,q⟩:=read_iff.1 h';refine diff_eq _ _ 0 (fun e=>hn ?_) (linesS_ne (pr_of d l)) (linesS_ne (pr_of m q));rw[<-j,<-p,textS,textS,e]
theorem dec_len (u:Nat):∀k:Nat,u<10 ^ k->0<k->(Lib.decDigits u).length<=k:=by
 induction u using Nat.strongRecOn with
 | ind u ih =>
  intro k g h0;rw[Lib.decDigits];split
  ·simp;omega
  ·rw[pT,List.length_singleton];obtain⟨k,rfl⟩:∃m,k=m+1:=⟨k-1,by omega⟩
   have d:0<k:=by
    rcases Nat.eq_zero_or_pos k with rfl|h
    ·simp at g;omega
    ·exact h
   have:=ih (u / 10) (by omega) k (by rw[Nat.pow_succ]at g;omega) d;omega
theorem num_len {z:Int}(h:Ok z):(num z).length<=10:=by rw[num_dec h.1];exact dec_len _ 10 (by have:=h.2;have:=h.1;omega) (by decide)
theorem name_len (op:Int):(nameS op).length<=6:=by
 have d:∀n∈names,n.length<=6:=by decide +kernel
 unfold nameS;by_cases h:op.toNat<names.length
 ·rw[pb,oY h];exact d _ (List.getElem_mem h)
 ·rw[pb,pr (by omega)];simp
end Tx
end
section
namespace Tx
theorem beforeFrom_len (v:Int):∀(g:List (List Int))(b:Nat),(Ref.beforeFrom v g b).length<=g.length
 | [],_=>by simp[Ref.beforeFrom]
 | l::r,b=>by
  have:=beforeFrom_len v r (b+1)
  unfold Ref.beforeFrom;split<;>simp<;>omega
theorem shape_sz (f:Fn)(x:Ins):(Ref.shape f x).1<=3/\(Ref.shape f x).2.1<=2/\(x.op≠28->0<=(Ref.shape f x).2.1):=by
 simp only[Ref.shape,apply_ite Prod.snd,apply_ite Prod.fst];refine⟨?_,?_,fun h=>?_⟩
 ·repeat' split
  all_goals omega
 ·repeat' split
  all_goals omega
 ·repeat' split
  all_goals omega
theorem args_len {f:Fn}(h:Ref.validate f=0){l:List Ins}(hl:l∈f.blocks){x:Ins}(hx:x∈l):x.args.length<=10/\x.to.length<=10:=by
 have d:=(Ref.val_iff f).1 h;obtain⟨t,a2,a3,-⟩:=(Ref.argument_iff f x).1 (d.arg l hl x hx);obtain⟨j,m,p⟩:=(Ref.counts_iff _ _).1 a2;obtain⟨s1,s2,s3⟩:=shape_sz f x
 have r:x.to.length<=10:=by
  by_cases g:x.op=28
  ·obtain⟨b,q⟩:=List.getElem?_of_mem hl;rw[d.phi b l q x hx g];have:=beforeFrom_len b (Ref.graph f) 0;rw[Ref.graph_len]at this;have:=d.size;unfold Ref.before;omega
  ·have:=p (s3 g);omega
 refine⟨?_,r⟩;by_cases h0:0<=(Ref.shape f x).1
 ·have:=j h0;omega
 ·have:=m (by omega);omega
theorem flat_len:∀(ws:List S)(n:Nat),(∀w∈ws,w.length<=n)->(ws.flatMap fun t=>32::t).length<=ws.length*(n+1)
 | [],n,_=>by simp
 | w::r,n,h=>by
  have d:=flat_len r n fun x hx=>h x (by simp[hx])
  have g:=h w (by simp);rw[List.flatMap_cons,pT,List.length_cons,List.length_cons,Nat.add_one_mul];omega
theorem unw_len (ws:List S)(n:Nat)(h:∀w∈ws,w.length<=n):(unw ws).length<=ws.length*(n+1):=by
 cases ws with
 | nil=>simp[unw]
 | cons w r =>
  have d:=flat_len r n fun x hx=>h x (by simp[hx]);have g:=h w (by simp);rw[unw,pT,List.length_cons,Nat.add_one_mul];omega
theorem opW_len {x:Ins}(h:PrI x):(opW x).length<=17:=by
 unfold opW;have d:=name_len x.op;have g:=num_len h.flags;rw[pT];split
 ·rw[List.length_cons];omega
 ·simp;omega
theorem restW_len {x:Ins}(h:PrI x):(restW x).length<=1+x.args.length+x.to.length/\∀w∈restW x,w.length<=17:=by
 unfold restW;constructor
 ·rw[pT,pT,pv,pv];split<;>simp<;>omega
 ·intro w d;rcases pI.1 d with d|d
  ·rcases pI.1 d with d|d
   ·split at d
    ·rw[List.mem_singleton.1 d,List.length_cons];have:=num_len h.imm;omega
    ·cases d
   ·obtain⟨a,g,rfl⟩:=List.mem_map.1 d;have:=num_len (h.args a g);omega
  ·obtain⟨a,g,rfl⟩:=List.mem_map.1 d;have:=num_len (h.to a g);rw[List.length_cons];omega
theorem lineS_len {x:Ins}(h:PrI x)(ha:x.args.length<=10/\x.to.length<=10){v:Int}(hv:Ok v):(lineS x v).length<=500:=by
 have j:=restW_len h;have m:=opW_len h;have p:=num_len hv;have q:=num_len h.width
 have g:(wordsI x v).length<=25/\∀w∈wordsI x v,w.length<=17:=by
  unfold wordsI;split
  ·refine⟨by simp only[List.length_cons];omega,fun w d=>?_⟩;simp only[List.mem_cons]at d;rcases d with rfl|rfl|rfl|rfl|d
   ·omega
   ·simp
   ·omega
   ·omega
   ·exact j.2 w d
  ·refine⟨by simp only[List.length_cons];omega,fun w d=>?_⟩;rcases List.mem_cons.1 d with rfl|d
   ·omega
   ·exact j.2 w d
 have:=unw_len (wordsI x v) 17 g.2;have l:=g.1;show (unw _).length<=500;have:(wordsI x v).length*(17+1)<=25*18:=Nat.mul_le_mul_right _ l;omega
theorem headS_len {f:Fn}(h:Pr f)(hs:f.slots.length<=2):(unw (headW f)).length<=500:=by
 have l:=h.size
 have g:(headW f).length<=9/\∀w∈headW f,w.length<=17:=by
  unfold headW;refine⟨by simp only[List.length_cons,pT,pv];omega,fun w d=>?_⟩;rcases List.mem_cons.1 d with rfl|d
  ·simp
  ·rcases pI.1 d with d|d
   ·obtain⟨a,j,rfl⟩:=List.mem_map.1 d;have:=num_len (h.params a j);omega
   ·simp only[List.mem_cons]at d;rcases d with rfl|rfl|rfl|d
    ·simp
    ·have:=num_len h.ret;omega
    ·simp
    ·obtain⟨a,j,rfl⟩:=List.mem_map.1 d;have:=num_len (h.slots a j);omega
 have:=unw_len (headW f) 17 g.2;have:(headW f).length*(17+1)<=9*18:=Nat.mul_le_mul_right _ g.1;omega
theorem insLines_max:∀(l:List Ins)(v:Int),0<=v->v+l.length<4294967296->(∀x∈l,PrI x/\x.args.length<=10/\x.to.length<=10)->∀s∈insLines l v,s.length<=500
 | [],v,_,_,_,s,hs=>by cases hs
 | x::r,v,hv,hm,h,s,hs=>by
  rw[List.length_cons]at hm
  rcases List.mem_cons.1 hs with rfl|hs
  ·exact lineS_len (h x (by simp)).1 (h x (by simp)).2 ⟨hv,by push_cast at hm;omega⟩
  ·exact insLines_max r (v+1) (by omega) (by push_cast at hm ⊢;omega) (fun y hy=>h y (by simp[hy])) s hs
theorem linesFrom_max:∀(bs:List (List Ins))(b v:Int),0<=b->b+bs.length<4294967296->0<=v->v+Ref.total bs<4294967296->(∀l∈bs,∀x∈l,PrI x/\x.args.length<=10/\x.to.length<=10)->∀s∈linesFrom bs b v,s.length<=500
 | [],b,v,_,_,_,_,_,s,d=>by cases d
 | l::r,b,v,hb,hb2,hv,g,h,s,d=>by
  rw[Ref.total_cons]at g
  rw[List.length_cons]at hb2
  push_cast at g hb2
  rcases List.mem_cons.1 d with rfl|d
  ·have:=num_len (z:=b) ⟨hb,by omega⟩
   simp;omega
  ·rcases pI.1 d with d|d
   ·exact insLines_max l v hv (by omega) (h l (by simp)) s d
   ·exact linesFrom_max r (b+1) _ (by omega) (by omega) (by omega) (by omega) (fun m g=>h m (by simp[g])) s d
theorem linesS_max {f:Fn}(h:Ref.validate f=0)(hi:Im f):∀s∈linesS f,s.length<=500:=by
 have j:=pr_of h hi;have p:=((Ref.val_iff f).1 h).size;intro s d;rcases List.mem_cons.1 d with rfl|d
 ·exact headS_len j p.2.1
 ·exact linesFrom_max _ _ _ (Int.le_refl 0) (by omega) (by omega) (by omega) (fun l g x m=>⟨j.ins l g x m,args_len h g m⟩) s d
theorem flat_lines_len:∀(ls:List S)(n:Nat),(∀w∈ls,w.length<=n)->(ls.flatMap fun l=>l++[10]).length<=ls.length*(n+1)
 | [],n,_=>by simp
 | w::r,n,h=>by
  have d:=flat_lines_len r n fun x hx=>h x (by simp[hx])
  have g:=h w (by simp);rw[List.flatMap_cons,pT,pT,List.length_singleton,List.length_cons,Nat.add_one_mul];omega
theorem textS_len {f:Fn}(h:Ref.validate f=0)(hi:Im f):(textS f).length<=30000:=by have d:=flat_lines_len (linesS f) 500 (linesS_max h hi);have j:=((Ref.val_iff f).1 h).size;have g:=linesS_len f;have:(linesS f).length*(500+1)<=51*501:=Nat.mul_le_mul_right _ (by omega);unfold textS;omega
end Tx
end
section
namespace Tx
def loopR (has:Bool):List S->Nat->Ins->Ins
 | [],_,x=>x
 | s::r,k,x =>
  if has=true/\k=1 then loopR has r (k+1) {x with width:=numR s}
  else if s.head?=some 35 then loopR has r (k+1) {x with imm:=numR s.tail}
  else if s.head?=some 64 then loopR has r (k+1) {x with to:=x.to++[numR s.tail]}
  else loopR has r (k+1) {x with args:=x.args++[numR s]}
theorem loopR_rest (has:Bool):∀(ws:List S)(k:Nat)(x:Ins),(has=true->2<=k)->loopR has ws k x=restR ws x
 | [],k,x,_=>rfl
 | s::r,k,x,h=>by
  rw[loopR,restR,pC (fun q=>by have:=h q.1;omega)]
  repeat rw[loopR_rest has r (k+1) _ (fun q=>by have:=h q;omega)]
def usR (ws:List S):List S:=if hasR ws=true then ws.drop 2 else ws
theorem instR_loop (ws:List S):instR ws=loopR (hasR ws) (usR ws).tail 1 (nameR ((usR ws).headD [])):=by
 unfold instR usR
 cases h:hasR ws with
 | false =>
  rw[pC (by decide),pC (by decide),loopR_rest false _ _ _ (fun q=>by cases q)]
 | true =>
  rw[pB rfl,pB rfl]
  cases ht:(ws.drop 2).tail with
  | nil=>
   rw[loopR];have e:numR []=0:=rfl;simp only[List.tail_nil,List.headD_nil,e,restR];rfl
  | cons s r =>
   rw[loopR,pB ⟨rfl,rfl⟩,loopR_rest true _ _ _ (fun _=>pS _)];rfl
theorem usR_ne {ws:List S}(h:ws≠[]):1<=(usR ws).length:=by
 unfold usR;split
 next q =>
  unfold hasR at q;simp only[pD,decide_eq_true_eq]at q;rw[List.length_drop];omega
 ·exact List.length_pos_iff.2 h
end Tx
end

/- Parts. -/
import Derived.Test.YthfjdhanbegaoaaGreatDoorT22
import Derived.Lib.ParseIntB
import Derived.Lib.ItoaNum
set_option linter.unusedSimpArgs false
set_option linter.unusedVariables false
set_option maxRecDepth 100000
set_option maxHeartbeats 16000000
namespace Go.Proofs.YthfjdhanbegaoaaGreatDoor
section
namespace Tx
abbrev S:=List UInt8
def names:List S:=[[99,111,110,115,116],[97,100,100],[115,117,98],[109,117,108],[117,100,105,118],[117,114,101,109],[115,100,105,118],[115,114,101,109],[97,110,100],[111,114],[120,111,114],[115,104,108],[108,115,104,114],[97,115,104,114],[99,109,112],[115,101,108,101,99,116],[122,101,120,116],[115,101,120,116],[116,114,117,110,99],[112,97,100,100],[112,115,117,98],[102,114,101,101,122,101],[112,111,105,115,111,110],[97,110,121],[97,100,100,114],[103,101,112],[108,111,97,100],[115,116,111,114,101],[112,104,105],[106,117,109,112],[98,114,97,110,99,104],[114,101,116],[116,114,97,112]]
def nameS (op:Int):S:=names.getD op.toNat []
def num (z:Int):S:=Lib.itoa z
def numbered (op:Int):Bool:=decide (op=0) || decide (op=14) || decide (op=19) || decide (op=20) || decide (op=24)
def unw:List S->S
 | []=>[]
 | w::r=>w++r.flatMap fun t=>32::t
def opW (x:Ins):S:=nameS x.op++(if 0<x.flags then 46::num x.flags else [])
def restW (x:Ins):List S:=(if numbered x.op=true then [35::num x.imm] else [])++x.args.map num++x.to.map fun b=>64::num b
def wordsI (x:Ins)(v:Int):List S:=if 0<x.width then num v::[61]::opW x::num x.width::restW x else opW x::restW x
def lineS (x:Ins)(v:Int):S:=unw (wordsI x v)
def headW (f:Fn):List S:=[102,117,110,99]::(f.params.map num++[58]::num f.ret::[58]::f.slots.map num)
def insLines:List Ins->Int->List S
 | [],_=>[]
 | x::r,v=>lineS x v::insLines r (v+1)
def linesFrom:List (List Ins)->Int->Int->List S
 | [],_,_=>[]
 | l::r,b,v=>(num b++[58])::(insLines l v++linesFrom r (b+1) (v+l.length))
def linesS (f:Fn):List S:=unw (headW f)::linesFrom f.blocks 0 f.params.length
def textS (f:Fn):S:=(linesS f).flatMap fun l=>l++[10]
def cutS (c:UInt8):S->List S
 | []=>[[]]
 | b::r=>if b=c then []::cutS c r else match cutS c r with
  | h::t=>(b::h)::t
  | []=>[[b]]
theorem cutS_ne (c:UInt8):∀l,cutS c l≠[]
 | []=>by simp[cutS]
 | b::r=>by
  unfold cutS
  split
  ·simp
  ·split<;>simp
theorem cutS_word (c:UInt8):∀(a:S),(∀b∈a,b≠c)->cutS c a=[a]
 | [],_=>rfl
 | b::r,h=>by
  unfold cutS
  rw[pC (h b (by simp)),cutS_word c r (fun x hx=>h x (by simp[hx]))]
theorem cutS_cons (c:UInt8)(l:S):∀(a:S),(∀b∈a,b≠c)->cutS c (a++c::l)=a::cutS c l
 | [],_=>by simp[cutS]
 | b::r,h=>by rw[List.cons_append,cutS,pC (h b (by simp)),cutS_cons c l r (fun x hx=>h x (by simp[hx]))]
theorem cutS_join (c:UInt8):∀(ts:List S)(a:S),(∀b∈a,b≠c)->(∀t∈ts,∀b∈t,b≠c)->cutS c (a++ts.flatMap fun t=>c::t)=a::ts
 | [],a,h,_=>by simpa using cutS_word c a h
 | t::ts,a,h,ht=>by rw[List.flatMap_cons,List.cons_append,cutS_cons c _ a h,cutS_join c ts t (ht t (by simp)) (fun u hu=>ht u (by simp[hu]))]
theorem cut_unw {ws:List S}(hn:ws≠[])(h:∀t∈ws,∀b∈t,b≠32):cutS 32 (unw ws)=ws:=by
 cases ws with
 | nil=>exact absurd rfl hn
 | cons w r=>exact cutS_join 32 r w (h w (by simp)) fun t d=>h t (by simp[d])
theorem cutS_lines (c:UInt8):∀(ls:List S),(∀t∈ls,∀b∈t,b≠c)->cutS c (ls.flatMap fun l=>l++[c])=ls++[[]]
 | [],_=>rfl
 | l::r,h=>by
  rw[List.flatMap_cons,List.append_assoc]
  show cutS c (l++c::r.flatMap fun l=>l++[c])=_
  rw[cutS_cons c _ l (h l (by simp)),cutS_lines c r fun t ht=>h t (by simp[ht])]
  rfl
theorem cutS_snoc (c:UInt8):∀l:S,cutS c (l++[c])=cutS c l++[[]]
 | []=>by simp[cutS]
 | b::r=>by
  rw[List.cons_append,cutS,cutS,cutS_snoc c r]
  split
  ·rfl
  ·cases h:cutS c r with
   | nil=>exact absurd h (cutS_ne c r)
   | cons x y=>rfl
theorem digit_of (u:Nat)(h:u<10):(UInt8.ofNat (48+u)).toNat=48+u:=by simp;omega
theorem dec_digit (u:Nat):∀c∈Lib.decDigits u,48<=c.toNat/\c.toNat<=57:=by
 induction u using Nat.strongRecOn with
 | ind u ih =>
  intro c d;rw[Lib.decDigits]at d;split at d
  ·simp only[List.mem_singleton]at d;subst d;rw[digit_of u (by assumption)];omega
  ·rcases pI.1 d with d|d
   ·exact ih (u / 10) (by omega) c d
   ·simp only[List.mem_singleton]at d;subst d;rw[digit_of _ (by omega)];omega
theorem dec_ne (u:Nat):Lib.decDigits u≠[]:=by rw[Lib.decDigits];split<;>simp
theorem num_dec {z:Int}(h:0<=z):num z=Lib.decDigits z.toNat:=by unfold num Lib.itoa;rw[pC (by omega)]
theorem num_digit {z:Int}(h:0<=z):∀c∈num z,48<=c.toNat/\c.toNat<=57:=by rw[num_dec h];exact dec_digit _
theorem num_ne {z:Int}(h:0<=z):num z≠[]:=by rw[num_dec h];exact dec_ne _
theorem digit_neq {c d:UInt8}(h:48<=c.toNat/\c.toNat<=57)(hd:d.toNat<48\/57<d.toNat):c≠d:=by intro e;subst e;omega
theorem parseM_snoc (M:Nat)(hM:M<18446744073709551616):∀(l:S)(acc n:Nat)(b:UInt8),Lib.parseUintM M acc l=.ok n->48<=b.toNat/\b.toNat<=57->n*10+(b.toNat-48)<=M->Lib.parseUintM M acc (l++[b])=.ok (n*10+(b.toNat-48))
 | [],acc,n,b,h,hb,hn=>by
  simp only[Lib.parseUintM,Lib.NumEnd.ok.injEq]at h
  subst h
  simp only[List.nil_append,Lib.parseUintM]
  rw[pB hb,pC (by omega),pC (by omega)]
 | c::r,acc,n,b,h,hb,hn=>by
  rw[Lib.parseUintM]at h
  rw[List.cons_append,Lib.parseUintM]
  split at h
  next hc =>
   split at h
   ·cases h
   next h1 =>
    split at h
    ·cases h
    next h2 =>
     rw[pB hc,pC h1,pC h2]
     exact parseM_snoc M hM r _ n b h hb hn
  ·cases h
theorem parseM_dec (M:Nat)(hM:M<18446744073709551616)(u:Nat):u<=M->Lib.parseUintM M 0 (Lib.decDigits u)=.ok u:=by
 induction u using Nat.strongRecOn with
 | ind u ih =>
  intro d;rw[Lib.decDigits];split
  next h =>
   simp only[Lib.parseUintM,digit_of u h];rw[pB (by omega),pC (by omega),pC (by omega)];congr 1;omega
  next h =>
   have hd:=digit_of (u%10) (by omega);have:=parseM_snoc M hM _ 0 (u / 10) (UInt8.ofNat (48+u%10)) (ih (u / 10) (by omega) (by omega)) (by omega) (by omega);rw[this,hd];congr 1;omega
def numP (s:S):Int × Bool:=match Lib.parseUintB 32 s with
 | .ok u=>(u,false)
 | .«syntax»=>(0,true)
 | .range=>(4294967295,true)
def Ok (z:Int):Prop:=0<=z/\z<4294967296
theorem numP_num {z:Int}(h:Ok z):numP (num z)=(z,false):=by unfold numP Lib.parseUintB;rw[num_dec h.1,pC (dec_ne _),parseM_dec _ (by decide) _ (by have:=h.2;omega)];simp only;rw[Int.toNat_of_nonneg h.1]
def numRf:Int->S->Int
 | n,[]=>if 4294967296<=n then 0 else n
 | n,c::r=>if c.toNat<48\/57<c.toNat\/4294967296<=n then 0 else numRf (10*n+((c.toNat:Int)-48)) r
def numR (s:S):Int:=numRf 0 s
theorem numRf_M:∀(l:S)(acc n:Nat),Lib.parseUintM 4294967295 acc l=.ok n->acc<=4294967295->numRf acc l=n
 | [],acc,n,h,ha=>by
  simp only[Lib.parseUintM,Lib.NumEnd.ok.injEq]at h
  subst h
  rw[numRf,pC (by omega)]
 | c::r,acc,n,h,ha=>by
  rw[Lib.parseUintM]at h
  rw[numRf]
  split at h
  next hc =>
   split at h
   ·cases h
   ·split at h
    ·cases h
    next h2 =>
     rw[pC (by omega)]
     have:=numRf_M r _ n h (by omega)
     rw[<-this];congr 1;omega
  ·cases h
theorem numR_num {z:Int}(h:Ok z):numR (num z)=z:=by unfold numR;have:=numRf_M (num z) 0 z.toNat (by rw[num_dec h.1];exact parseM_dec _ (by decide) _ (by have:=h.2;omega)) (by decide);rw[Int.natCast_zero]at this;rw[this,Int.toNat_of_nonneg h.1]
structure PrI (x:Ins):Prop where
 op:0<=x.op/\x.op<=32
 width:Ok x.width
 flags:Ok x.flags
 imm:Ok x.imm
 imm0:numbered x.op=false->x.imm=0
 args:∀a∈x.args,Ok a
 to:∀t∈x.to,Ok t
structure Pr (f:Fn):Prop where
 params:∀n∈f.params,Ok n
 ret:Ok f.ret
 slots:∀n∈f.slots,Ok n
 ins:∀l∈f.blocks,∀x∈l,PrI x
 size:f.blocks.length<=10/\f.params.length<=3/\Ref.total f.blocks<=40
def Word (w:S):Prop:=∀b∈w,b≠32/\b≠10
theorem word_num {z:Int}(h:0<=z):Word (num z):=fun b d=>⟨digit_neq (num_digit h b d) (by decide),digit_neq (num_digit h b d) (by decide)⟩
theorem word_cons {c:UInt8}{w:S}(hc:c≠32/\c≠10)(h:Word w):Word (c::w):=fun b d=>by
 rcases List.mem_cons.1 d with rfl|d
 ·exact hc
 ·exact h b d
theorem word_append {a b:S}(ha:Word a)(hb:Word b):Word (a++b):=fun c d=>by
 rcases pI.1 d with h|h
 ·exact ha c h
 ·exact hb c h
theorem word_nil:Word []:=fun b d=>by cases d
theorem names_ok:∀n∈names,n≠[]/\∀b∈n,97<=b.toNat/\b.toNat<=122:=by decide +kernel
theorem nameS_mem {op:Int}(h:0<=op/\op<=32):nameS op∈names:=by
 unfold nameS;have d:op.toNat<names.length:=by show _<33;omega
 rw[pb,oY d];exact List.getElem_mem d
theorem name_char {op:Int}:∀b∈nameS op,97<=b.toNat/\b.toNat<=122:=by
 intro b d;by_cases h:op.toNat<names.length
 ·have:nameS op∈names:=by
   unfold nameS;rw[pb,oY h];exact List.getElem_mem h
  exact(names_ok _ this).2 b d
 ·unfold nameS at d;rw[pb,pr (by omega)]at d;cases d
theorem char_neq {c d:UInt8}(h:97<=c.toNat/\c.toNat<=122)(hd:d.toNat<97):c≠d:=by intro e;subst e;omega
theorem word_name {op:Int}:Word (nameS op):=fun b d=>⟨char_neq (name_char b d) (by decide),char_neq (name_char b d) (by decide)⟩
theorem word_op {x:Ins}(h:PrI x):Word (opW x):=by
 unfold opW;refine word_append word_name ?_;split
 ·exact word_cons (by decide) (word_num h.flags.1)
 ·exact word_nil
theorem word_rest {x:Ins}(h:PrI x):∀w∈restW x,Word w:=by
 intro w d;unfold restW at d;rcases pI.1 d with d|d
 ·rcases pI.1 d with d|d
  ·split at d
   ·simp only[List.mem_singleton]at d;subst d;exact word_cons (by decide) (word_num h.imm.1)
   ·cases d
  ·obtain⟨a,g,rfl⟩:=List.mem_map.1 d;exact word_num (h.args a g).1
 ·obtain⟨a,g,rfl⟩:=List.mem_map.1 d;exact word_cons (by decide) (word_num (h.to a g).1)
theorem word_I {x:Ins}(h:PrI x){v:Int}(hv:0<=v):∀w∈wordsI x v,Word w:=by
 intro w d;unfold wordsI at d;split at d
 ·simp only[List.mem_cons]at d;rcases d with rfl|rfl|rfl|rfl|d
  ·exact word_num hv
  ·exact word_cons (by decide) word_nil
  ·exact word_op h
  ·exact word_num h.width.1
  ·exact word_rest h w d
 ·rcases List.mem_cons.1 d with rfl|d
  ·exact word_op h
  ·exact word_rest h w d
theorem wordsI_ne (x:Ins)(v:Int):wordsI x v≠[]:=by unfold wordsI;split<;>simp
theorem cut_line {x:Ins}(h:PrI x){v:Int}(hv:0<=v):cutS 32 (lineS x v)=wordsI x v:=cut_unw (wordsI_ne x v) fun t g b d=>(word_I h hv t g b d).1
theorem word_head {f:Fn}(h:Pr f):∀w∈headW f,Word w:=by
 intro w d;unfold headW at d;rcases List.mem_cons.1 d with rfl|d
 ·unfold Word;decide
 ·rcases pI.1 d with d|d
  ·obtain⟨a,g,rfl⟩:=List.mem_map.1 d;exact word_num (h.params a g).1
  ·simp only[List.mem_cons]at d;rcases d with rfl|rfl|rfl|d
   ·unfold Word;decide
   ·exact word_num h.ret.1
   ·unfold Word;decide
   ·obtain⟨a,g,rfl⟩:=List.mem_map.1 d;exact word_num (h.slots a g).1
theorem cut_head {f:Fn}(h:Pr f):cutS 32 (unw (headW f))=headW f:=cut_unw (by unfold headW;simp) fun t g b d=>(word_head h t g b d).1
theorem unw_line {ws:List S}(h:∀w∈ws,Word w):∀b∈unw ws,b≠10:=by
 intro b d
 cases ws with
 | nil=>cases d
 | cons w r =>
  rcases pI.1 d with d|d
  ·exact(h w (by simp) b d).2
  ·obtain⟨t,g,d⟩:=List.mem_flatMap.1 d;rcases List.mem_cons.1 d with rfl|d
   ·decide
   ·exact(h t (by simp[g]) b d).2
theorem insLines_line:∀(l:List Ins)(v:Int),0<=v->(∀x∈l,PrI x)->∀s∈insLines l v,∀b∈s,b≠10
 | [],v,_,_,s,hs=>by cases hs
 | x::r,v,hv,h,s,hs=>by
  rcases List.mem_cons.1 hs with rfl|hs
  ·exact unw_line (word_I (h x (by simp)) hv)
  ·exact insLines_line r (v+1) (by omega) (fun y hy=>h y (by simp[hy])) s hs
theorem linesFrom_line:∀(bs:List (List Ins))(b v:Int),0<=b->0<=v->(∀l∈bs,∀x∈l,PrI x)->∀s∈linesFrom bs b v,∀c∈s,c≠10
 | [],b,v,_,_,_,s,d=>by cases d
 | l::r,b,v,hb,hv,h,s,d=>by
  rcases List.mem_cons.1 d with rfl|d
  ·exact fun c g=>(word_append (word_num hb) (word_cons (c:=58) (by decide) word_nil) c g).2
  ·rcases pI.1 d with d|d
   ·exact insLines_line l v hv (h l (by simp)) s d
   ·exact linesFrom_line r (b+1) _ (by omega) (by omega) (fun m j=>h m (by simp[j])) s d
theorem lines_line {f:Fn}(h:Pr f):∀s∈linesS f,∀c∈s,c≠10:=by
 intro s d;rcases List.mem_cons.1 d with rfl|d
 ·exact unw_line (word_head h)
 ·exact linesFrom_line _ _ _ (Int.le_refl 0) (by omega) h.ins s d
theorem cut_text {f:Fn}(h:Pr f):cutS 10 (textS f)=linesS f++[[]]:=cutS_lines 10 _ (lines_line h)
theorem text_body (f:Fn):∃body,textS f=body++[10]:=by
 unfold textS;rcases List.eq_nil_or_concat (linesS f) with h|⟨a,l,h⟩
 ·unfold linesS at h;cases h
 ·exact⟨(a.flatMap fun l=>l++[10])++l,by rw[h,List.concat_eq_append,List.flatMap_append];simp⟩
theorem cut_body {f:Fn}(h:Pr f){body:S}(hb:textS f=body++[10]):cutS 10 body=linesS f:=by have d:=cut_text h;rw[hb,cutS_snoc]at d;exact List.append_inj_left' d rfl
end Tx
end
section
namespace Tx
def opOf (n:S):Int × Bool:=if names.idxOf n<33 then (names.idxOf n,false) else (0,true)
theorem opOf_fin:∀k:Fin 33,opOf (names.getD k.val [])=((k.val:Int),false):=by decide +kernel
theorem opOf_name {op:Int}(h:0<=op/\op<=32):opOf (nameS op)=(op,false):=by have:=opOf_fin ⟨op.toNat,by omega⟩;unfold nameS;rw[this];simp only[Prod.mk.injEq,and_true];omega
def cut1 (c:UInt8):S->S × S × Bool
 | []=>([],[],false)
 | b::r=>if b=c then ([],r,true) else (b::(cut1 c r).1,(cut1 c r).2.1,(cut1 c r).2.2)
theorem cut1_word (c:UInt8):∀(a:S),(∀b∈a,b≠c)->cut1 c a=(a,[],false)
 | [],_=>rfl
 | b::r,h=>by rw[cut1,pC (h b (by simp)),cut1_word c r fun x hx=>h x (by simp[hx])]
theorem cut1_cons (c:UInt8)(l:S):∀(a:S),(∀b∈a,b≠c)->cut1 c (a++c::l)=(a,l,true)
 | [],_=>by simp[cut1]
 | b::r,h=>by rw[List.cons_append,cut1,pC (h b (by simp)),cut1_cons c l r fun x hx=>h x (by simp[hx])]
def restP:List S->Ins->Bool->Ins × Bool
 | [],x,wr=>(x,wr)
 | s::r,x,wr =>
  if s.head?=some 35 then restP r {x with imm:=(numP s.tail).1} (wr || (numP s.tail).2)
  else if s.head?=some 64 then restP r {x with to:=x.to++[(numP s.tail).1]} (wr || (numP s.tail).2)
  else restP r {x with args:=x.args++[(numP s).1]} (wr || (numP s).2)
def hasP (ws:List S):Bool:=decide (1<ws.length) && decide (ws.getD 1 []=[61])
def flagsP (c:S × S × Bool):Int × Bool:=if c.2.2=true then numP c.2.1 else (0,false)
def nameP (s:S):Ins × Bool:=(⟨(opOf (cut1 46 s).1).1,0,(flagsP (cut1 46 s)).1,[],0,[]⟩,(opOf (cut1 46 s).1).2 || (flagsP (cut1 46 s)).2)
def instP (ws:List S):Ins × Bool :=
 if hasP ws=true then restP ((ws.drop 2).tail.tail) { (nameP ((ws.drop 2).headD [])).1 with width:=(numP ((ws.drop 2).tail.headD [])).1} ((nameP ((ws.drop 2).headD [])).2 || (numP ((ws.drop 2).tail.headD [])).2)
 else restP ws.tail (nameP (ws.headD [])).1 (nameP (ws.headD [])).2
def untilS (e:S):List S->List S × List S
 | []=>([],[])
 | w::r=>if w=e then ([],r) else (w::(untilS e r).1,(untilS e r).2)
def numsP (l:List S):List Int:=l.map fun s=>(numP s).1
def wrongs (l:List S):Bool:=l.any fun s=>(numP s).2
def lastD (d:Int):List Int->Int
 | []=>d
 | z::r=>lastD z r
def headP (ws:List S):Fn × Bool :=
 (⟨numsP (untilS [58] ws.tail).1,lastD 0 (numsP (untilS [58] (untilS [58] ws.tail).2).1),numsP (untilS [58] (untilS [58] ws.tail).2).2,[]⟩,
   wrongs (untilS [58] ws.tail).1 || wrongs (untilS [58] (untilS [58] ws.tail).2).1 || wrongs (untilS [58] (untilS [58] ws.tail).2).2)
def addLast (bs:List (List Ins))(x:Ins):List (List Ins):=bs.dropLast++[bs.getLastD []++[x]]
def linesP:List S->Fn->Bool->Fn × Bool
 | [],f,wr=>(f,wr)
 | s::r,f,wr =>
  if s.getLast?=some 58 then linesP r {f with blocks:=f.blocks++[[]]} wr
  else if f.blocks=[] then linesP r f true
  else linesP r {f with blocks:=addLast f.blocks (instP (cutS 32 s)).1} (wr || (instP (cutS 32 s)).2)
def parsedP (ls:List S):Fn × Bool:=linesP ls.tail (headP (cutS 32 (ls.headD []))).1 (headP (cutS 32 (ls.headD []))).2
def restR:List S->Ins->Ins
 | [],x=>x
 | s::r,x =>
  if s.head?=some 35 then restR r {x with imm:=numR s.tail}
  else if s.head?=some 64 then restR r {x with to:=x.to++[numR s.tail]}
  else restR r {x with args:=x.args++[numR s]}
def hasR (ws:List S):Bool:=decide (2<ws.length) && decide (ws.getD 1 []=[61])
def nameR (s:S):Ins:=⟨(opOf ((cutS 46 s).headD [])).1,0,if 1<(cutS 46 s).length then numR ((cutS 46 s).getD 1 []) else 0,[],0,[]⟩
def instR (ws:List S):Ins :=
 if hasR ws=true then restR ((ws.drop 2).tail.tail) {nameR ((ws.drop 2).headD []) with width:=numR ((ws.drop 2).tail.headD [])}
 else restR ws.tail (nameR (ws.headD []))
def headR:List S->Nat->Fn->Fn
 | [],_,f=>f
 | w::r,p,f =>
  if w=[58] then headR r (p+1) f
  else if p=0 then headR r p {f with params:=f.params++[numR w]}
  else if p=1 then headR r p {f with ret:=numR w}
  else headR r p {f with slots:=f.slots++[numR w]}
def fn0:Fn:=⟨[],0,[],[]⟩
def linesR:List S->Fn->Fn
 | [],f=>f
 | s::r,f =>
  if s=[] then linesR r f
  else if s.getLast?=some 58 then linesR r {f with blocks:=f.blocks++[[]]}
  else if f.blocks=[] then linesR r f
  else linesR r {f with blocks:=addLast f.blocks (instR (cutS 32 s))}
def parseR (s:S):Fn:=linesR (cutS 10 s).tail (headR (cutS 32 ((cutS 10 s).headD [])).tail 0 fn0)
theorem num_head {z:Int}(h:0<=z):(num z).head?≠some 35/\(num z).head?≠some 64:=by
 have d:=num_digit h
 cases hn:num z with
 | nil=>simp
 | cons c r =>
  have:=d c (by simp[hn]);simp only[List.head?_cons,ne_eq,Option.some.injEq];exact⟨digit_neq this (by decide),digit_neq this (by decide)⟩
theorem restP_to:∀(l:List Int)(x:Ins)(wr:Bool),(∀b∈l,Ok b)->restP (l.map fun b=>64::num b) x wr=({x with to:=x.to++l},wr)
 | [],x,wr,_=>by simp[restP]
 | b::r,x,wr,h=>by
  rw[List.map_cons,restP,pC (by simp),pB (by simp),List.tail_cons,numP_num (h b (by simp)),restP_to r _ _ fun c d=>h c (by simp[d])]
  simp
theorem restP_args (t:List S):∀(l:List Int)(x:Ins)(wr:Bool),(∀b∈l,Ok b)->restP (l.map num++t) x wr=restP t {x with args:=x.args++l} wr
 | [],x,wr,_=>by simp
 | b::r,x,wr,h=>by
  obtain⟨d,g⟩:=num_head (h b (by simp)).1
  rw[List.map_cons,List.cons_append,restP,pC d,pC g,numP_num (h b (by simp)),restP_args t r _ _ fun c j=>h c (by simp[j])];simp
theorem restP_words {x:Ins}(h:PrI x)(y:Ins)(hy:y={x with args:=[],imm:=0,to:=[]}):restP (restW x) y false=(x,false):=by
 have h0:=h.imm0
 have d:∀z:Ins,z={x with args:=[],to:=[]}->restP (x.args.map num++x.to.map fun b=>64::num b) z false=(x,false):=by intro z g;rw[restP_args _ _ _ _ h.args,restP_to _ _ _ h.to,g];simp
 unfold restW;split
 next hn =>
  rw[List.append_assoc,List.singleton_append,restP,pB (by simp),List.tail_cons,numP_num h.imm];exact d _ (by rw[hy])
 next hn =>
  rw[List.nil_append];refine d _ ?_;rw[hy,h0 (by simpa using hn)]
theorem restR_to:∀(l:List Int)(x:Ins),(∀b∈l,Ok b)->restR (l.map fun b=>64::num b) x={x with to:=x.to++l}
 | [],x,_=>by simp[restR]
 | b::r,x,h=>by
  rw[List.map_cons,restR,pC (by simp),pB (by simp),List.tail_cons,numR_num (h b (by simp)),restR_to r _ fun c d=>h c (by simp[d])]
  simp
theorem restR_args (t:List S):∀(l:List Int)(x:Ins),(∀b∈l,Ok b)->restR (l.map num++t) x=restR t {x with args:=x.args++l}
 | [],x,_=>by simp
 | b::r,x,h=>by
  obtain⟨d,g⟩:=num_head (h b (by simp)).1
  rw[List.map_cons,List.cons_append,restR,pC d,pC g,numR_num (h b (by simp)),restR_args t r _ fun c j=>h c (by simp[j])];simp
theorem restR_words {x:Ins}(h:PrI x)(y:Ins)(hy:y={x with args:=[],imm:=0,to:=[]}):restR (restW x) y=x:=by
 have h0:=h.imm0
 have d:∀z:Ins,z={x with args:=[],to:=[]}->restR (x.args.map num++x.to.map fun b=>64::num b) z=x:=by intro z g;rw[restR_args _ _ _ h.args,restR_to _ _ h.to,g];simp
 unfold restW;split
 next hn =>
  rw[List.append_assoc,List.singleton_append,restR,pB (by simp),List.tail_cons,numR_num h.imm];exact d _ (by rw[hy])
 next hn =>
  rw[List.nil_append];refine d _ ?_;rw[hy,h0 (by simpa using hn)]
theorem name_dot {op:Int}:∀b∈nameS op,b≠46:=fun b d=>char_neq (name_char b d) (by decide)
theorem nameP_op {x:Ins}(h:PrI x):nameP (opW x)=(⟨x.op,0,x.flags,[],0,[]⟩,false):=by
 unfold nameP opW;split
 next hf =>
  rw[cut1_cons 46 _ _ name_dot];simp only[opOf_name h.op,flagsP,if_true,numP_num h.flags,Bool.or_self]
 next hf =>
  rw[List.append_nil,cut1_word 46 _ name_dot];simp only[opOf_name h.op,flagsP,Bool.or_self];have:=h.flags.1;simp;omega
theorem num_dot {z:Int}(h:0<=z):∀b∈num z,b≠46:=fun b d=>digit_neq (num_digit h b d) (by decide)
theorem nameR_op {x:Ins}(h:PrI x):nameR (opW x)=⟨x.op,0,x.flags,[],0,[]⟩:=by
 unfold nameR opW;split
 next hf =>
  have:cutS 46 (nameS x.op++46::num x.flags)=[nameS x.op,num x.flags]:=by rw[cutS_cons 46 _ _ name_dot,cutS_word 46 _ (num_dot h.flags.1)]
  rw[this];simp[opOf_name h.op,numR_num h.flags]
 next hf =>
  rw[List.append_nil,cutS_word 46 _ name_dot];have:=h.flags.1;simp[opOf_name h.op];omega
theorem rest_second {x:Ins}(h:PrI x):(restW x).getD 0 []≠[61]:=by
 have d:∀w∈restW x,w≠[61]:=by
  intro w d e;subst e;unfold restW at d;rcases pI.1 d with d|d
  ·rcases pI.1 d with d|d
   ·split at d
    ·simp at d
    ·cases d
   ·obtain⟨a,j,g⟩:=List.mem_map.1 d;exact absurd (num_digit (h.args a j).1 61 (by rw[g];simp)) (by decide)
  ·obtain⟨a,j,g⟩:=List.mem_map.1 d;simp at g
 cases hr:restW x with
 | nil=>simp
 | cons w r=>simpa using d w (by simp[hr])
theorem instP_words {x:Ins}(h:PrI x)(v:Int):instP (wordsI x v)=(x,false):=by
 unfold instP wordsI;by_cases g:0<x.width
 ·rw[pB g];have d:hasP (num v::[61]::opW x::num x.width::restW x)=true:=by simp[hasP]
  rw[pB d];simp only[List.drop_succ_cons,List.drop_zero,List.tail_cons,List.headD_cons,nameP_op h,numP_num h.width,Bool.or_self];exact restP_words h _ rfl
 ·rw[pC g]
  have d:hasP (opW x::restW x)=false:=by have:=rest_second h;simp only[hasP,List.getD_cons_succ,this,decide_false,Bool.and_false]
  rw[pC (by rw[d];decide)];simp only[List.tail_cons,List.headD_cons,nameP_op h];refine restP_words h _ ?_;have:x.width=0:=by have:=h.width.1;omega
  rw[this]
theorem instR_words {x:Ins}(h:PrI x)(v:Int):instR (wordsI x v)=x:=by
 unfold instR wordsI;by_cases g:0<x.width
 ·rw[pB g];have d:hasR (num v::[61]::opW x::num x.width::restW x)=true:=by simp[hasR]
  rw[pB d];simp only[List.drop_succ_cons,List.drop_zero,List.tail_cons,List.headD_cons,nameR_op h,numR_num h.width];exact restR_words h _ rfl
 ·rw[pC g]
  have d:hasR (opW x::restW x)=false:=by have:=rest_second h;simp only[hasR,List.getD_cons_succ,this,decide_false,Bool.and_false]
  rw[pC (by rw[d];decide)];simp only[List.tail_cons,List.headD_cons,nameR_op h];refine restR_words h _ ?_;have:x.width=0:=by have:=h.width.1;omega
  rw[this]
theorem num_colon {z:Int}(h:0<=z):num z≠[58]:=fun e=>absurd (num_digit h 58 (by rw[e];simp)) (by decide)
theorem untilS_nums (t:List S):∀l:List Int,(∀b∈l,Ok b)->untilS [58] (l.map num++[58]::t)=(l.map num,t)
 | [],_=>by simp[untilS]
 | b::r,h=>by rw[List.map_cons,List.cons_append,untilS,pC (num_colon (h b (by simp)).1),untilS_nums t r fun c hc=>h c (by simp[hc])]
theorem numsP_nums:∀l:List Int,(∀b∈l,Ok b)->numsP (l.map num)=l/\wrongs (l.map num)=false
 | [],_=>⟨rfl,rfl⟩
 | b::r,h=>by
  obtain⟨d,g⟩:=numsP_nums r fun c hc=>h c (by simp[hc])
  unfold numsP wrongs at *;simp only[List.map_cons,List.any_cons,numP_num (h b (by simp)),d,g,Bool.or_self,and_self]
theorem headP_words {f:Fn}(h:Pr f):headP (headW f)=({f with blocks:=[]},false):=by unfold headP headW;have j:untilS [58] (f.params.map num++[58]::num f.ret::[58]::f.slots.map num)=(f.params.map num,num f.ret::[58]::f.slots.map num):=untilS_nums _ _ h.params;have l:untilS [58] (num f.ret::[58]::f.slots.map num)=([num f.ret],f.slots.map num):=untilS_nums (f.slots.map num) [f.ret] (by simpa using h.ret);obtain⟨p1,p2⟩:=numsP_nums _ h.params;obtain⟨s1,s2⟩:=numsP_nums _ h.slots;obtain⟨d,g⟩:=numsP_nums [f.ret] (by simpa using h.ret);simp only[List.map_cons,List.map_nil]at d g;simp only[List.tail_cons,j,l,p1,p2,s1,s2,d,g,lastD,Bool.or_self]
theorem headR_params (t:List S):∀(l:List Int)(f:Fn),(∀b∈l,Ok b)->headR (l.map num++t) 0 f=headR t 0 {f with params:=f.params++l}
 | [],f,_=>by simp
 | b::r,f,h=>by
  rw[List.map_cons,List.cons_append,headR,pC (num_colon (h b (by simp)).1),pB rfl,numR_num (h b (by simp)),headR_params t r _ fun c d=>h c (by simp[d])]
  simp
theorem headR_slots:∀(l:List Int)(f:Fn),(∀b∈l,Ok b)->headR (l.map num) 2 f={f with slots:=f.slots++l}
 | [],f,_=>by simp[headR]
 | b::r,f,h=>by
  rw[List.map_cons,headR,pC (num_colon (h b (by simp)).1),pC (by decide),pC (by decide),numR_num (h b (by simp)),headR_slots r _ fun c d=>h c (by simp[d])]
  simp
theorem headR_words {f:Fn}(h:Pr f):headR (headW f).tail 0 fn0={f with blocks:=[]}:=by unfold headW;rw[List.tail_cons,headR_params _ _ _ h.params,headR,pB rfl,headR,pC (num_colon h.ret.1),pC (by decide),pB rfl,headR,pB rfl,headR_slots _ _ h.slots,numR_num h.ret];simp[fn0]
theorem addLast_snoc (bs:List (List Ins))(l:List Ins)(x:Ins):addLast (bs++[l]) x=bs++[l++[x]]:=by unfold addLast;simp
theorem unw_last {ws:List S}(hn:ws≠[])(h:∀w∈ws,w≠[]/\∀b∈w,b≠58):unw ws≠[]/\(unw ws).getLast?≠some 58:=by
 have g:∀b∈unw ws,b≠58:=by
  intro b d
  cases ws with
  | nil=>cases d
  | cons w r =>
   rcases pI.1 d with d|d
   ·exact(h w (by simp)).2 b d
   ·obtain⟨t,j,d⟩:=List.mem_flatMap.1 d;rcases List.mem_cons.1 d with rfl|d
    ·decide
    ·exact(h t (by simp[j])).2 b d
 refine⟨?_,fun e=>g 58 (List.mem_of_getLast? e) rfl⟩
 cases ws with
 | nil=>exact absurd rfl hn
 | cons w r =>
  intro e;exact(h w (by simp)).1 (List.append_eq_nil_iff.1 e).1
theorem words_colon {x:Ins}(h:PrI x){v:Int}(hv:0<=v):∀w∈wordsI x v,w≠[]/\∀b∈w,b≠58:=by
 have j:∀{z:Int},0<=z->num z≠[]/\∀b∈num z,b≠58:=fun hz=>⟨num_ne hz,fun b g=>digit_neq (num_digit hz b g) (by decide)⟩
 have l:∀{z:Int} (c:UInt8),c≠58->0<=z->(c::num z)≠[]/\∀b∈c::num z,b≠58:=fun c hc hz=>⟨by simp,fun b g=>by
   rcases List.mem_cons.1 g with rfl|g
   · exact hc
   · exact(j hz).2 b g⟩
 have o1:opW x≠[]/\∀b∈opW x,b≠58:=by
  unfold opW;refine⟨fun e=>(names_ok _ (nameS_mem h.op)).1 (List.append_eq_nil_iff.1 e).1,fun b g=>?_⟩;rcases pI.1 g with g|g
  ·exact char_neq (name_char b g) (by decide)
  ·split at g
   ·exact(l 46 (by decide) h.flags.1).2 b g
   ·cases g
 have p:∀w∈restW x,w≠[]/\∀b∈w,b≠58:=by
  intro w d;unfold restW at d;rcases pI.1 d with d|d
  ·rcases pI.1 d with d|d
   ·split at d
    ·simp only[List.mem_singleton]at d;subst d;exact l 35 (by decide) h.imm.1
    ·cases d
   ·obtain⟨a,m,rfl⟩:=List.mem_map.1 d;exact j (h.args a m).1
  ·obtain⟨a,m,rfl⟩:=List.mem_map.1 d;exact l 64 (by decide) (h.to a m).1
 intro w d;unfold wordsI at d;split at d
 ·simp only[List.mem_cons]at d;rcases d with rfl|rfl|rfl|rfl|d
  ·exact j hv
  ·exact⟨by simp,by decide⟩
  ·exact o1
  ·exact j h.width.1
  ·exact p w d
 ·rcases List.mem_cons.1 d with rfl|d
  ·exact o1
  ·exact p w d
theorem insLinesP (t:List S)(p:Fn)(bs:List (List Ins)):∀(l m:List Ins)(v:Int),0<=v->(∀x∈l,PrI x)->linesP (insLines l v++t) {p with blocks:=bs++[m]} false=linesP t {p with blocks:=bs++[m++l]} false
 | [],m,v,_,_=>by simp[insLines]
 | x::r,m,v,hv,h=>by
  have d:=h x (by simp)
  obtain⟨q,g⟩:lineS x v≠[]/\(lineS x v).getLast?≠some 58:=unw_last (wordsI_ne x v) (words_colon d hv);rw[insLines,List.cons_append,linesP,pC g,pC (by simp),cut_line d hv,instP_words d];simp only[addLast_snoc,Bool.or_self];rw[insLinesP t p bs r (m++[x]) (v+1) (by omega) fun y j=>h y (by simp[j])];simp
theorem insLinesR (t:List S)(p:Fn)(bs:List (List Ins)):∀(l m:List Ins)(v:Int),0<=v->(∀x∈l,PrI x)->linesR (insLines l v++t) {p with blocks:=bs++[m]}=linesR t {p with blocks:=bs++[m++l]}
 | [],m,v,_,_=>by simp[insLines]
 | x::r,m,v,hv,h=>by
  have d:=h x (by simp)
  obtain⟨g,j⟩:lineS x v≠[]/\(lineS x v).getLast?≠some 58:=unw_last (wordsI_ne x v) (words_colon d hv);rw[insLines,List.cons_append,linesR,pC g,pC j,pC (by simp),cut_line d hv,instR_words d];simp only[addLast_snoc];rw[insLinesR t p bs r (m++[x]) (v+1) (by omega) fun y q=>h y (by simp[q])];simp
theorem linesFromP (p:Fn)(t:List S):∀(bs cs:List (List Ins))(b v:Int),0<=v->(∀l∈bs,∀x∈l,PrI x)->linesP (linesFrom bs b v++t) {p with blocks:=cs} false=linesP t {p with blocks:=cs++bs} false
 | [],cs,b,v,_,_=>by simp[linesFrom]
 | l::r,cs,b,v,hv,h=>by
  rw[linesFrom,List.cons_append,linesP,pB (by simp)]
  rw[List.append_assoc,insLinesP _ p cs l [] v hv (h l (by simp)),List.nil_append]
  rw[linesFromP p t r (cs++[l]) (b+1) _ (by omega) fun m d=>h m (by simp[d])]
  simp
theorem linesFromR (p:Fn)(t:List S):∀(bs cs:List (List Ins))(b v:Int),0<=b->0<=v->(∀l∈bs,∀x∈l,PrI x)->linesR (linesFrom bs b v++t) {p with blocks:=cs}=linesR t {p with blocks:=cs++bs}
 | [],cs,b,v,_,_,_=>by simp[linesFrom]
 | l::r,cs,b,v,hb,hv,h=>by
  rw[linesFrom,List.cons_append,linesR,pC (by simp),pB (by simp)]
  rw[List.append_assoc,insLinesR _ p cs l [] v hv (h l (by simp)),List.nil_append]
  rw[linesFromR p t r (cs++[l]) (b+1) _ (by omega) (by omega) fun m d=>h m (by simp[d])]
  simp
theorem parsedP_lines {f:Fn}(h:Pr f):parsedP (linesS f)=(f,false):=by unfold parsedP linesS;rw[List.tail_cons,List.headD_cons,cut_head h,headP_words h];have:=linesFromP f [] f.blocks [] 0 f.params.length (by omega) h.ins;rw[List.append_nil]at this;rw[this];simp[linesP]
theorem parseR_text {f:Fn}(h:Pr f):parseR (textS f)=f:=by unfold parseR;rw[cut_text h];unfold linesS;rw[List.cons_append,List.tail_cons,List.headD_cons,cut_head h,headR_words h];rw[linesFromR f [[]] f.blocks [] 0 f.params.length (Int.le_refl 0) (by omega) h.ins];simp[linesR]
end Tx
end

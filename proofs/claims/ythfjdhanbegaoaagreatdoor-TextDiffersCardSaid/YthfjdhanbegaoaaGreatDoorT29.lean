/- Parts. -/
import Derived.Test.YthfjdhanbegaoaaGreatDoorT27
import Derived.Lib.Split
import Derived.Lib.SlicesS
import Derived.Lib.Join
set_option linter.unusedSimpArgs false
set_option linter.unusedVariables false
set_option maxRecDepth 100000
set_option maxHeartbeats 16000000
open Go.Proofs.Tryz
namespace Go.Proofs.YthfjdhanbegaoaaGreatDoor
open Go.RowKit
namespace Tx
theorem index_byte (c:UInt8):∀(l:S),(Lib.index l [c]=-1/\∀b∈l,b≠c)\/∃a r,l=a++c::r/\(∀b∈a,b≠c)/\Lib.index l [c]=a.length
 | []=>.inl ⟨by simp[Lib.index],by simp⟩
 | b::l=>by
  by_cases g:b=c
  ·subst g
   exact .inr ⟨[],l,rfl,by simp,by simp[Lib.index,List.isPrefixOf]⟩
  ·have e:([c]:S).isPrefixOf (b::l)=false:=by simp[List.isPrefixOf];exact fun h=>g h.symm
   rcases index_byte c l with ⟨m,j⟩|⟨a,r,rfl,j,p⟩
   ·left;refine⟨by unfold Lib.index;rw[e,m];rfl,fun x d=>?_⟩;rcases List.mem_cons.1 d with rfl|d
    ·exact g
    ·exact j x d
   ·right;refine⟨b::a,r,rfl,fun x d=>?_,?_⟩
    ·rcases List.mem_cons.1 d with rfl|d
     ·exact g
     ·exact j x d
    ·unfold Lib.index;rw[e,p];have:((a.length:Int) == -1)=false:=by rw[beq_eq_false_iff_ne];omega
     rw[this];simp
theorem splitK_byte (c:UInt8):∀(n:Nat)(l:S),l.length<=n->∀k,Lib.count l [c]<=k->Lib.splitK [c] 0 k l=cutS c l:=by
 intro n
 induction n with
 | zero =>
  intro l p k j;have:l=[]:=pK (by omega);subst this
  cases k with
  | zero=>rfl
  | succ k=>simp[Lib.splitK,Lib.index,cutS]
 | succ n ih =>
  intro l p k j;rcases index_byte c l with ⟨q,d⟩|⟨a,r,rfl,d,g⟩
  ·rw[cutS_word c l d]
   cases k with
   | zero=>rfl
   | succ k=>unfold Lib.splitK;rw[q];rfl
  ·rw[Lib.count_hit (by simp) g]at j
   cases k with
   | zero=>omega
   | succ k =>
    unfold Lib.splitK;have m:(Lib.index (a++c::r) [c] == -1)=false:=by rw[g,beq_eq_false_iff_ne];omega
    have hd:List.drop (a.length+([c]:S).length) (a++c::r)=r:=by simp[List.drop_append]
    rw[m,g,pj,hd,cutS_cons c _ _ d];rw[hd]at j;rw[ih r (by simp at p;omega) k (by omega)];simp
theorem splitB_cut (c:UInt8)(s:ByteArray):(Lib.splitB (bs [c]) 0 (Lib.countB s (bs [c])) s).map (·.data.toList)=cutS c s.data.toList:=by rw[Lib.splitB_data];exact splitK_byte c _ _ (pS _) _ (pS _)
theorem count_cut (c:UInt8):∀(n:Nat)(l:S),l.length<=n->(cutS c l).length=Lib.count l [c]+1:=by
 intro n
 induction n with
 | zero =>
  intro l g;have:l=[]:=pK (by omega);subst this;rfl
 | succ n ih =>
  intro l g;rcases index_byte c l with ⟨j,d⟩|⟨a,r,rfl,d,m⟩
  ·rw[cutS_word c l d,Lib.count_miss j];rfl
  ·have hd:List.drop (a.length+([c]:S).length) (a++c::r)=r:=by simp[List.drop_append]
   rw[cutS_cons c _ _ d,Lib.count_hit (by simp) m,hd,List.length_cons,ih r (by simp at g;omega)];omega
theorem cut_cut1 (c:UInt8)(l:S):Lib.cut l [c]=cut1 c l:=by
 unfold Lib.cut;rcases index_byte c l with ⟨j,d⟩|⟨a,r,rfl,d,g⟩
 ·rw[pC (by omega),cut1_word c l d]
 ·rw[pB (by omega),g,cut1_cons c r a d];simp
theorem prefix_head (c:UInt8)(l:S):Lib.hasPrefix l [c]=decide (l.head?=some c):=by
 unfold Lib.hasPrefix
 cases l with
 | nil=>simp
 | cons b r =>
  by_cases h:b=c
  ·subst h;simp
  ·simp[List.isPrefixOf,h];exact fun e=>h e.symm
theorem suffix_last (c:UInt8)(l:S):Lib.hasSuffix l [c]=decide (l.getLast?=some c):=by
 unfold Lib.hasSuffix;rw[Bool.eq_iff_iff,List.isSuffixOf_iff_suffix,decide_eq_true_eq];constructor
 ·rintro⟨t,rfl⟩;simp
 ·intro h;rcases List.eq_nil_or_concat l with rfl|⟨a,b,rfl⟩
  ·cases h
  ·rw[List.concat_eq_append]at h ⊢;simp at h;subst h;exact⟨a,rfl⟩
theorem trim_last (c:UInt8)(l:S):Lib.trimSuffix l [c]=if l.getLast?=some c then l.dropLast else l:=by
 unfold Lib.trimSuffix;rw[suffix_last];by_cases h:l.getLast?=some c
 ·rw[pB (by simpa using h),pB h,List.dropLast_eq_take];rfl
 ·rw[pC (by simpa using h),pC h]
theorem join_text:∀(ls:List S),ls≠[]->Lib.join ls [10]++[10]=ls.flatMap fun l=>l++[10]
 | [],h=>absurd rfl h
 | [a],_=>by rw[Lib.join_one];simp
 | a::b::r,_=>by
  have ih:=join_text (b::r) (by simp)
  rw[Lib.join_cons]at ih ⊢;rw[List.flatMap_cons,<-ih];simp[Lib.joinTail]
def idxI (ws:List S)(x:S):Int:=if ws.idxOf x<ws.length then (ws.idxOf x:Int) else -1
theorem idxS_idxI (x:S):∀(ws:List S)(i:Nat),Lib.idxFromS (ws.map bs) (bs x) i=if ws.idxOf x<ws.length then ((i+ws.idxOf x:Nat):Int) else -1
 | [],i=>by simp[Lib.idxFromS]
 | a::r,i=>by
  rw[List.map_cons,Lib.idxFromS,List.idxOf_cons]
  by_cases h:a=x
  ·subst h;simp
  ·have d:(a == x)=false:=by simpa using h
   rw[pC (fun e=>h (oo e)),idxS_idxI x r (i+1),d];simp only[List.length_cons,cond_false,Nat.add_lt_add_iff_right];split
   ·congr 1;omega
   ·rfl
end Tx
def WordsIn (w:World)(v:Value)(ws:List (List UInt8)):Prop :=
 SlAt w.heap.size v ws.length fun b off=>∀j l,ws[j]?=some l->w.cell? ⟨b,off+j,none⟩=some (.string (bs l))
theorem WordsIn.gr {w w':World}{v:Value}{ws:List (List UInt8)}(h:WordsIn w v ws)(g:Gr w w'):WordsIn w' v ws:=by obtain⟨A,d,rfl,q,r,t⟩:=h;refine⟨A,d,rfl,q,r,fun z=>?_⟩;obtain⟨b,m,e,p,u⟩:=t z;exact⟨b,m,e,Nat.lt_of_lt_of_le p g.size,fun j l y=>(g.cell _ _ p).trans (u j l y)⟩
def WordsF (n₀:Nat)(w:World)(v:Value)(ws:List (List UInt8)):Prop :=
 ∃A cap,v=.slice A ws.length cap/\ws.length<=cap/\ws.length<=100000/\(0<ws.length->∃b off,A=some ⟨b,off,none⟩/\n₀<=b/\b<w.heap.size/\∀j l,ws[j]?=some l->w.cell? ⟨b,off+j,none⟩=some (.string (bs l)))
theorem WordsF.words {n₀:Nat}{w:World}{v:Value}{ws:List (List UInt8)}(h:WordsF n₀ w v ws):WordsIn w v ws:=by obtain⟨A,d,rfl,j,r,l⟩:=h;refine⟨A,d,rfl,j,by omega,fun q=>?_⟩;obtain⟨b,g,e,-,p,m⟩:=l q;exact⟨b,g,e,p,m⟩
theorem eL {w w':World}{b:Nat}(h:w'.heap[b]?=w.heap[b]?)(o:Nat):w'.cell? ⟨b,o,none⟩=w.cell? ⟨b,o,none⟩:=by unfold World.cell?;rw[h]
theorem WordsF.same {n₀:Nat}{w w':World}{v:Value}{ws:List (List UInt8)}(h:WordsF n₀ w v ws)(hs:w.heap.size<=w'.heap.size)(hk:∀k,n₀<=k->k<w.heap.size->w'.heap[k]?=w.heap[k]?):WordsF n₀ w' v ws:=by obtain⟨A,g,rfl,p,q,r⟩:=h;refine⟨A,g,rfl,p,q,fun z=>?_⟩;obtain⟨b,m,e,d,u,t⟩:=r z;exact⟨b,m,e,d,by omega,fun j l y=>(eL (hk b d u) _).trans (t j l y)⟩
theorem WordsF.gr {n₀:Nat}{w w':World}{v:Value}{ws:List (List UInt8)}(h:WordsF n₀ w v ws)(g:Gr w w'):WordsF n₀ w' v ws:=h.same g.size fun k _ d=>g.heap k d
theorem WordsF.get {n₀:Nat}{w:World}{A:Option Addr}{n c:Nat}{ws:List (List UInt8)}(h:WordsF n₀ w (.slice A n c) ws){k:Nat}{z:List UInt8}(hk:ws[k]?=some z):∃b off,A=some ⟨b,off,none⟩/\n₀<=b/\b<w.heap.size/\w.cell? ⟨b,off+k,none⟩=some (.string (bs z)):=by obtain⟨t,d,e,B,C,l⟩:=h;injection e with j u y;subst j;have p:=(oZ.1 hk).1;obtain⟨b,off,g,q,r,m⟩:=l (by omega);exact⟨b,off,g,q,r,m k z hk⟩
def es (ws:List (List UInt8)):List Value:=ws.map fun l=>.string (bs l)
theorem mM {ws:List (List UInt8)}{j:Nat}{l:List UInt8}(h:ws[j]?=some l):(es ws)[j]?=some (.string (bs l)):=by unfold es;rw[pk,h];rfl
theorem jb (c:UInt8)(s:List UInt8)(hs:s.length<=90000)(w:World)(ht:TabW w) :
  Calls prog 34 #[.string (bs s),.string (bs [c])] w fun e w'=>∃v,e=.returned v/\Hid (WordsF w.heap.size w' v (Tx.cutS c s))/\Gr w w':=by
 obtain⟨m,u⟩:=ht.maxLen;refine(Tryz.strings_Split (bs s) (bs [c]) m w (by rw[dv];omega) u (by rw[dv];simp)).mono fun e w' ⟨q,d⟩=>?_;have y:=Tx.cutS_len c s
 have t:(Tx.cutS c s).length=Lib.countB (bs s) (bs [c])+1:=by have:=Tx.count_cut c _ s (pS _);rw[this];unfold Lib.countB;rw[dt,dt]
 refine⟨_,q,dJ ⟨_,_,by rw[t],by omega,by omega,fun _=>⟨w.heap.size,0,rfl,pS _,by rw[d];simp,fun j l g=>?_⟩⟩,by rw[d];exact(qj w).alloc _⟩;rw[d,Nat.zero_add];refine(px _ _ j _ _ _ (heap_alloc_new w _)).trans ?_;have p:=Tx.splitB_cut c (bs s);rw[dt]at p;rw[<-p,pk]at g;obtain⟨b,r,rfl⟩:=Option.map_eq_some_iff.1 g;rw[List.getElem?_toArray,pk,r,ie];rfl
theorem iP (v:Value)(ws:List (List UInt8))(x:List UInt8)(w:World)(h:WordsIn w v ws) :
  Calls prog 42 #[v,.string (bs x)] w (RS (.int .i64 (Tx.idxI ws x)) w):=by
 obtain⟨A,c,rfl,u,y,q⟩:=h
 have p:Lib.idxOfS (ws.map bs) (bs x)=Tx.idxI ws x:=by unfold Lib.idxOfS Tx.idxI;rw[Tx.idxS_idxI];split<;>simp
 rcases Nat.eq_zero_or_pos ws.length with h0|h0
 ·have t:=pK h0;subst t;exact(Tryz.slices_Index_string_empty A c (bs x) w).mono fun _ _ ⟨d,m⟩=>⟨by rw[d];exact congrArg (fun z=>Ending.returned (.int .i64 z)) p,m.symm⟩
 ·obtain⟨b,l,rfl,B,r⟩:=q h0;refine(Tryz.slices_Index_string b l ws.length c (ws.map bs) (bs x) w (by simp) (by omega) (fun j g=>?_)).mono fun _ _ ⟨d,m⟩=>⟨?_,m.symm⟩
  ·rw[pv]at g;rw[r j ws[j] (oY g),pb,pk,oY g];rfl
  ·rw[pq (by simp),p]at d;exact d
theorem nP (c:UInt8)(s:List UInt8)(hs:s.length<=90000)(w:World)(ht:TabW w) :
  Calls prog 109 #[.string (bs s),.string (bs [c])] w (RG (.tuple #[.string (bs (Tx.cut1 c s).1),.string (bs (Tx.cut1 c s).2.1),.bool (Tx.cut1 c s).2.2]) w):=by
 obtain⟨m,j⟩:=ht.maxLen;refine(Tryz.strings_Cut (bs s) (bs [c]) m w (by rw[dv];omega) j).mono fun e w' ⟨d,n,g⟩=>?_;rw[dt,dt,Tx.cut_cut1]at d;exact⟨d,g ▸ (qj w).drewN n⟩
theorem gX (c:UInt8)(s:List UInt8)(w:World):Calls prog 110 #[.string (bs s),.string (bs [c])] w (RS (.bool (decide (s.head?=some c))) w):=by refine(Tryz.strings_HasPrefix (bs s) (bs [c]) w).mono fun e w' ⟨d,g⟩=>?_;rw[dt,dt,Tx.prefix_head]at d;exact⟨d,g.symm⟩
theorem kT (c:UInt8)(s:List UInt8)(hs:s.length<=90000)(w:World):Calls prog 67 #[.string (bs s),.string (bs [c])] w (RS (.bool (decide (s.getLast?=some c))) w):=by refine(Tryz.strings_HasSuffix (bs s) (bs [c]) w (by rw[dv];omega)).mono fun e w' ⟨d,g⟩=>?_;rw[dt,dt,Tx.suffix_last]at d;exact⟨d,g.symm⟩
theorem jm (c:UInt8)(s:List UInt8)(hs:s.length<=90000)(w:World) :
  Calls prog 32 #[.string (bs s),.string (bs [c])] w (RS (.tuple #[.string (bs (if s.getLast?=some c then s.dropLast else s)),.bool (decide (s.getLast?=some c))]) w):=by
 refine(Tryz.strings_CutSuffix (bs s) (bs [c]) w (by rw[dv];omega)).mono fun e w' ⟨d,g⟩=>?_;rw[dt,dt,Tx.suffix_last,Tx.trim_last]at d;exact⟨d,g.symm⟩
theorem mZ (v:Value)(ls:List (List UInt8))(w:World)(h:WordsIn w v ls)(hn:ls≠[])(hl:(Lib.join ls [10]).length<=1000000) :
  Calls prog 56 #[v,.string (bs [10])] w (RG (.string (bs (Lib.join ls [10]))) w):=by
 obtain⟨A,c,rfl,m,t,p⟩:=h;obtain⟨b,d,rfl,q,r⟩:=p (List.length_pos_iff.2 hn);have g:(ls.map bs).map (·.data.toList)=ls:=by rw[List.map_map];exact(List.map_congr_left fun l _=>dt l).trans (List.map_id _)
 have:=Tryz.strings_Join b d c (ls.map bs) (bs [10]) w (fun j x hx=>by
   rw[pk]at hx
   obtain⟨l,hl,rfl⟩:=Option.map_eq_some_iff.1 hx
   exact r j l hl) q (by simp;omega) (by simpa using m) (by rw[g,dt];omega)
 rw[pv,g,dt]at this;exact this
theorem ox (s:List UInt8)(hs:s.length<=90000)(w:World)(ht:TabW w) :
  Calls prog 135 #[.string (bs s),.int .i64 10,.int .i64 32] w fun e w'=>Hid (((Tx.numP s).2=false/\e=.returned (.tuple #[.int .u64 (Tx.numP s).1,.nilIface]))\/((Tx.numP s).2=true/\∃tp p,e=.returned (.tuple #[.int .u64 (Tx.numP s).1,.iface tp p])))/\Gr w w':=by
 have m:=dv s;unfold Tx.numP
 cases h:Lib.parseUintB 32 s with
 | ok u =>
  refine(Tryz.strconv_ParseUint_10_at32_ok (bs s) (by omega) u (by rw[dt];exact h) w).mono fun e w' ⟨d,l⟩=>⟨dJ (.inl ⟨rfl,d⟩),?_⟩;rcases l with rfl|rfl
  ·exact qj _
  ·exact Lib.bytesWorld_below _ _ _
 | «syntax» =>
  obtain⟨tp,p,j⟩:=ht.syn;exact(Tryz.strconv_ParseUint_10_at32_syntax_var (bs s) (by omega) (by rw[dt];exact h) tp p w j).mono fun e w' ⟨N,d,_,_,g⟩=>⟨dJ (.inr ⟨rfl,_,_,d⟩),g⟩
 | range =>
  obtain⟨tp,p,j⟩:=ht.rng;exact(Tryz.strconv_ParseUint_10_at32_range_var (bs s) (by omega) (by rw[dt];exact h) tp p w j).mono fun e w' ⟨N,d,_,_,g⟩=>⟨dJ (.inr ⟨rfl,_,_,d⟩),g⟩
def nameR (op:Int):List UInt8 × Int:=if op<0\/32<op then ([],4) else (Tx.nameS op,0)
theorem dK {n:Nat}(h:n<33)(w:World):(w.alloc (.cells eh 9)).cell? ⟨w.heap.size,n,none⟩=some (.string (bs (Tx.names.getD n []))) :=
 (px _ _ n _ _ _ (heap_alloc_new w _)).trans (nf h)
theorem jV:bs []=⟨#[]⟩:=rfl
theorem mQ (op:Int)(w:World):Calls prog 17 #[.int .i64 op] w (RG (.tuple #[.string (bs (nameR op).1),.int .i64 (nameR op).2]) w):=by
 unfold nameR
 have j:op<0\/32<op\/∃n:Nat,op=n/\n<33:=by
  rcases (by omega:op<0\/32<op\/(0<=op/\op<=32)) with h|h|h
  ·exact .inl h
  ·exact .inr (.inl h)
  ·exact .inr (.inr ⟨op.toNat,by omega,by omega⟩)
 rcases j with h|h|⟨n,rfl,h⟩
 ·rw[pB (.inl h),jV]
  go_enter func17, ntmps17
  go_wp2_with (go_at_call 40;refine(eC _).mono ?_;rintro e d ⟨rfl,rfl⟩);all_goals go_ret2
  all_goals exact⟨rfl,qj w⟩
 ·rw[pB (.inr h),jV];have h0:0<=op:=by omega
  go_enter func17, ntmps17
  go_wp2_with (go_at_call 40;refine(eC _).mono ?_;rintro e d ⟨rfl,rfl⟩);go_ret2
  first|exact⟨rfl,qj w⟩|exact⟨rfl,(qj w).alloc _⟩
 ·rw[pC (by omega)];have p:=dK h w;have g:((w.alloc (.cells eh 9)).alloc (.cells eh 9)).cell? ⟨w.heap.size+1,n,none⟩=some (.string (bs (Tx.names.getD n []))):=by simpa using dK h (w.alloc (.cells eh 9))
  have h0:(0:Int)<=(n:Int):=by omega
  have l:(n:Int)<33:=by omega
  have m:(n:Int)<=32:=by omega
  go_enter func17, ntmps17
  go_wp2_with (go_at_call 40;refine(eC _).mono ?_;rintro e d ⟨rfl,rfl⟩);go_ret2
  first|exact⟨rfl,(qj w).alloc _⟩|exact⟨rfl,((qj w).alloc _).alloc _⟩
theorem mg (op:Int)(w:World):Calls prog 18 #[.int .i64 op] w (RG (.tuple #[.string (bs (nameR op).1),.int .i64 (nameR op).2]) w):=by
 unfold nameR
 have j:op<0\/32<op\/∃n:Nat,op=n/\n<33:=by
  rcases (by omega:op<0\/32<op\/(0<=op/\op<=32)) with h|h|h
  ·exact .inl h
  ·exact .inr (.inl h)
  ·exact .inr (.inr ⟨op.toNat,by omega,by omega⟩)
 rcases j with h|h|⟨n,rfl,h⟩
 ·rw[pB (.inl h),jV]
  go_enter func18, ntmps18
  go_wp2_with (go_at_call 41;refine(eD _).mono ?_;rintro e d ⟨rfl,rfl⟩);all_goals go_ret2
  all_goals exact⟨rfl,qj w⟩
 ·rw[pB (.inr h),jV];have h0:0<=op:=by omega
  go_enter func18, ntmps18
  go_wp2_with (go_at_call 41;refine(eD _).mono ?_;rintro e d ⟨rfl,rfl⟩);go_ret2
  first|exact⟨rfl,qj w⟩|exact⟨rfl,(qj w).alloc _⟩
 ·rw[pC (by omega)];have p:=dK h w;have g:((w.alloc (.cells eh 9)).alloc (.cells eh 9)).cell? ⟨w.heap.size+1,n,none⟩=some (.string (bs (Tx.names.getD n []))):=by simpa using dK h (w.alloc (.cells eh 9))
  have h0:(0:Int)<=(n:Int):=by omega
  have l:(n:Int)<33:=by omega
  have m:(n:Int)<=32:=by omega
  go_enter func18, ntmps18
  go_wp2_with (go_at_call 41;refine(eD _).mono ?_;rintro e d ⟨rfl,rfl⟩);go_ret2
  first|exact⟨rfl,(qj w).alloc _⟩|exact⟨rfl,((qj w).alloc _).alloc _⟩
def ew (n:List UInt8):Int:=if (Tx.opOf n).2=true then 4 else 0
def lX (n:List UInt8):List (List UInt8)->Nat->Int × Int
 | [],_=>(0,4)
 | a::r,k=>if a=n then ((k:Int),0) else lX n r (k+1)
theorem iv (n:List UInt8):∀(l:List (List UInt8))(k:Nat),lX n l k=if l.idxOf n<l.length then (((k+l.idxOf n:Nat):Int),0) else (0,4)
 | [],k=>by simp[lX]
 | a::r,k=>by
  rw[lX,List.idxOf_cons]
  by_cases h:a=n
  ·subst h;simp
  ·have d:(a == n)=false:=by simpa using h
   rw[pC h,iv n r (k+1),d];simp only[List.length_cons,cond_false,Nat.add_lt_add_iff_right];split
   ·simp;omega
   ·rfl
theorem lY (n:List UInt8):lX n Tx.names 0=((Tx.opOf n).1,ew n):=by
 have d:Tx.names.length=33:=rfl;rw[iv,d];unfold ew Tx.opOf;split
 ·simp
 ·rfl
theorem ka {a b c d:Int}(h:(a,b)=(c,d)):Ending.returned (.tuple #[.int .i64 a,.int .i64 b])=.returned (.tuple #[.int .i64 c,.int .i64 d]):=by cases h;rfl
theorem mh (nm:List UInt8)(w:World):Calls prog 20 #[.string (bs nm)] w (RG (.tuple #[.int .i64 (Tx.opOf nm).1,.int .i64 (ew nm)]) w):=by
 have y:=dJ (lY nm);have A:=fun n (h:n<33)=>dK h w;have D:=dJ A;have t:Hid (Tx.names.length=33):=dJ rfl;clear A
 go_enter func20, ntmps20
 go_wp2_with (go_at_call 41;refine(eD _).mono ?_;rintro e G ⟨rfl,rfl⟩)
 go_loop [5] (fun i=>∃k:Nat,k<=33/\i=.int .i64 k/\Hid (lX nm (Tx.names.drop k) k=lX nm Tx.names 0)) (fun i=>33-(intOf i).toNat)
 case atStart=>exact⟨0,pR _,rfl,dJ rfl⟩
 case round =>
  obtain⟨k,F,rfl,d⟩:=hrel;rcases hr:Tx.names.drop k with _|⟨z,r⟩
  ·have j:=dm hr (by rw[t.out];exact F);rw[t.out]at j;have p:Hid (((Tx.opOf nm).1,ew nm)=(0,4)):=dJ (by rw[<-y.out,<-d.out,hr];rfl);subst j;clear hr;go_wp2;go_ret2;exact⟨ka p.out.symm,(qj w).alloc _⟩
  ·obtain⟨l,B,m⟩:=dj hr;rw[t.out]at l;have C:=D.out k l;rw[pb,B]at C;simp only[Option.getD_some]at C;have p:Hid (lX nm (Tx.names.drop k) k=if z=nm then ((k:Int),0) else lX nm r (k+1)):=dJ (by rw[hr];rfl);have u:Hid (Tx.names.drop (k+1)=r):=m;clear hr B m;by_cases g:z=nm
   ·have E:((bs z).toList == (bs nm).toList)=true:=by subst g;simp
    have q:Hid (((Tx.opOf nm).1,ew nm)=((k:Int),0)):=dJ (by rw[<-y.out,<-d.out,p.out,pB g]);clear d g;go_wp2;go_ret2;exact⟨ka q.out.symm,(qj w).alloc _⟩
   ·have E:((bs z).toList == (bs nm).toList)=false:=beq_eq_false_iff_ne.2 fun e=>g (by rw[Lib.toList_data,Lib.toList_data,dt,dt]at e;exact e);have q:Hid (lX nm r (k+1)=lX nm Tx.names 0):=dJ (by rw[<-d.out,p.out,pC g]);clear d g;go_wp2;go_round;case rel=>exact⟨k+1,by omega,rfl,dJ (by rw[u.out];exact q.out)⟩
    case measure=>simp[intOf]<;>omega

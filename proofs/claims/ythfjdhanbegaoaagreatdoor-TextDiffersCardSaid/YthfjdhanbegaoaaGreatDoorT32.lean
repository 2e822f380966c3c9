/- Parts. -/
import Derived.Test.YthfjdhanbegaoaaGreatDoorT31
set_option linter.unusedSimpArgs false
set_option linter.unusedVariables false
set_option maxRecDepth 100000
set_option maxHeartbeats 16000000
open Go.Proofs.Tryz
namespace Go.Proofs.YthfjdhanbegaoaaGreatDoor
open Go.RowKit
namespace Tx
theorem extract_list (s:ByteArray)(f i:Nat):(s.extract f i).data.toList=(s.data.toList.drop f).take (i-f):=by rw[ByteArray.data_extract,Array.toList_extract,List.extract_eq_take_drop]
def WI (y:UInt8)(s:ByteArray)(ts:List ByteArray)(f i:Nat):Prop :=
 ts.map (·.data.toList)++cutS y (s.data.toList.drop f)=cutS y s.data.toList/\f<=i/\∀c∈(s.data.toList.drop f).take (i-f),c≠y
theorem wi_start (y:UInt8)(s:ByteArray):WI y s [] 0 0:=⟨by simp,pS _,by simp⟩
theorem take_more (l:List UInt8)(f i:Nat)(c:UInt8)(hf:f<=i)(h:l[i]?=some c):(l.drop f).take (i+1-f)=(l.drop f).take (i-f)++[c]:=by rw[show i+1-f=(i-f)+1 by omega,List.take_add_one,List.getElem?_drop,show f+(i-f)=i by omega,h];rfl
theorem wi_skip {y:UInt8}{s:ByteArray}{ts:List ByteArray}{f i:Nat}{c:UInt8}(h:WI y s ts f i)(hc:s.data.toList[i]?=some c)(hne:c≠y):WI y s ts f (i+1):=by
 obtain⟨g,j,l⟩:=h;refine⟨g,by omega,?_⟩;rw[take_more _ _ _ _ j hc];intro x d;rcases pI.1 d with d|d
 ·exact l x d
 ·simp at d;subst d;exact hne
theorem drop_cut (y:UInt8)(l:List UInt8)(f i:Nat)(hf:f<=i)(h:l[i]?=some y):l.drop f=(l.drop f).take (i-f)++y::l.drop (i+1):=by
 conv=>lhs;rw[<-List.take_append_drop (i-f) (l.drop f)]
 rw[List.drop_drop,show f+(i-f)=i by omega];obtain⟨d,e⟩:=oZ.1 h;rw[po d,e]
theorem wi_cut {y:UInt8}{s:ByteArray}{ts:List ByteArray}{f i:Nat}(h:WI y s ts f i)(hc:s.data.toList[i]?=some y):WI y s (ts++[s.extract f i]) (i+1) (i+1):=by obtain⟨d,g,j⟩:=h;refine⟨?_,pS _,by simp⟩;rw[<-d,drop_cut y _ f i g hc,cutS_cons y _ _ j,List.map_append,List.append_assoc];simp[extract_list]
theorem wi_end {y:UInt8}{s:ByteArray}{ts:List ByteArray}{f:Nat}(h:WI y s ts f s.size):(ts++[s.extract f s.size]).map (·.data.toList)=cutS y s.data.toList:=by
 obtain⟨j,l,d⟩:=h;have m:s.data.toList.length=s.size:=by rw[Array.length_toList];rfl
 have g:(s.data.toList.drop f).take (s.size-f)=s.data.toList.drop f:=pq (by rw[List.length_drop];omega);rw[g]at d;rw[<-j,cutS_word y _ d,List.map_append];simp[extract_list,g]
theorem wi_len {y:UInt8}{s:ByteArray}{ts:List ByteArray}{f i:Nat}(h:WI y s ts f i):ts.length<=s.size+1:=by
 have d:=congrArg List.length h.1;have m:s.data.toList.length=s.size:=by rw[Array.length_toList];rfl
 have j:=cutS_len y s.data.toList;have g:=cutS_ne y (s.data.toList.drop f);have l:0<(cutS y (s.data.toList.drop f)).length:=List.length_pos_iff.2 g;rw[pT,pv]at d;omega
end Tx
theorem oG {w:World}{ops:Array Oper}{rest:List Oper}{o:Oper}{a:Act}{Q:Exit->Act->World->Prop}{B:Nat}
  (hgd:o.guard=none) (s x:Operand) (ho:o.op=.call {callee:=.builtin .append,args:=#[s,x],argTypes:=#[58,58]})
  {v:Value} {ts:List ByteArray} (hs:a.eval s=v) (hown:Own1 B 9 w v (ts.map Value.string)) (y:ByteArray) {e':TypeId} (hx:a.eval x=.slice (some ⟨w.heap.size,0,none⟩) 1 1) (hlt:ts.length<1099511627776) (hB:B<=w.heap.size)
  (h:∀A c w',Own1 B 9 w' (.slice A (ts.length+1) c) ((ts++[y]).map Value.string)->Below B w w'->wpList prog ops Q rest (a.put o.dst (.slice A (ts.length+1) c)) w') :
  wpList prog ops Q (o::rest) a (w.alloc (.cells #[.string y] e')):=by
 obtain⟨i0,p,g,j,l⟩:=info_parts lK;have q:(ts.map Value.string).length=ts.length:=pv _;refine nF (i:=i0) (z:=.string ByteArray.empty) (bytes:=16) underlying58 p g j l rfl (by omega) hgd s x ho hs hown (y:=.string y) rfl hx (by omega) hB ?_;intro A c w' d m _;rw[q]at d ⊢;rw[List.map_append]at h;exact h A c w' d m
theorem kB {w:World}{B:Nat}{v:Value}{ts:List ByteArray}{ws:List (List UInt8)}(h:Own1 B 9 w v (ts.map Value.string))(e:ts.map (·.data.toList)=ws)(hn:ts.length<=100000):WordsF B w v ws:=by
 subst e;refine gS (B:=B) ?_ (by simpa using hn)
 have:es (ts.map (·.data.toList))=ts.map Value.string:=by unfold es;rw[List.map_map];exact List.map_congr_left fun t _=>by show Value.string (bs t.data.toList)=_;rw[ie]
 rw[this];exact h
theorem mT (y:UInt8)(d:Int)(hd:d=y.toNat)(s:ByteArray)(hs:s.size<=90000)(w:World):Calls prog 37 #[.string s,.int .u8 d] w fun e w'=>∃v,e=.returned v/\Hid (WordsF w.heap.size w' v (Tx.cutS y s.data.toList))/\Gr w w':=by
 have F:Hid (s.data.toList.length=s.size):=dJ (by rw[Array.length_toList];rfl);have D:=dJ hd;clear hd
 go_enter func37, ntmps37
 go_wp2
 go_loopw [5,6,7] (fun s3 s4 s5 wr=>∃(i f:Nat)(ts:List ByteArray)(A:Option Addr)(c:Nat),i<=s.size+1/\f<=i/\s5=.int .i64 i/\s4=.int .i64 f/\s3=.slice A ts.length c/\Hid (Own1 w.heap.size 9 wr (.slice A ts.length c) (ts.map Value.string)/\Gr w wr/\(i<=s.size->Tx.WI y s ts f i)/\(i=s.size+1->ts.map (·.data.toList)=Tx.cutS y s.data.toList))) (fun _ _ i _=>s.size+1-(intOf i).toNat)
 case atStart=>exact⟨0,0,[],none,0,by omega,pS _,rfl,rfl,rfl,dJ ⟨Own1.nil _ _ _,qj w,fun _=>Tx.wi_start y s,fun h=>by omega⟩⟩
 case round =>
  obtain⟨i,f,ts,A,c,N,M,rfl,rfl,rfl,j⟩:=hrel;rcases (by omega:i=s.size+1\/i=s.size\/i<s.size) with e|e|B
  ·have G:decide (i<=s.size)=false:=by rw[decide_eq_false_iff_not];omega
   have H:s.size<i:=by omega
   have E:=dJ e;clear e;go_wp2;go_ret;have K:=j.out.1;exact⟨_,rfl,dJ (kB K (j.out.2.2.2 E.out) (by have J:=congrArg List.length (j.out.2.2.2 E.out);have L:=Tx.cutS_len y s.data.toList;rw[pv]at J;have:=F.out;omega)),j.out.2.1⟩
  ·subst e;have t:Hid (ts.length<1099511627776):=by have:=Tx.wi_len (j.out.2.2.1 (pS _));show _<_;omega
   have G:((s.size:Int) == (s.size:Int))=true:=by simp
   go_wp2_with (at_builtin;refine oG rfl _ _ rfl rfl (ts:=ts) (j.out.1) (s.extract f s.size) (by simp[Act.eval]) t.out j.out.2.1.size ?_;intro u z C g r;have q:=dJ g;have m:Hid (Gr w C):=Gr.below j.out.2.1 r (pS _);clear g);go_roundw;case rel=>exact⟨s.size+1,s.size+1,ts++[s.extract f s.size],u,z,by omega,pS _,rfl,rfl,by rw[pT];rfl,dJ ⟨by rw[pT];exact q.out,m.out,fun h=>by omega,fun _=>Tx.wi_end (j.out.2.2.1 (pS _))⟩⟩
   case measure=>simp[intOf]<;>omega
  ·have I:Hid (s.data.toList[i]?=some s[i]):=by
    show _=_;rw[oY (by rw[F.out];exact B)];rfl
   have G:((i:Int) == (s.size:Int))=false:=by rw[beq_eq_false_iff_ne];omega
   by_cases l:s[i]=y
   ·have t:Hid (ts.length<1099511627776):=by have:=Tx.wi_len (j.out.2.2.1 (by omega));show _<_;omega
    have H:((s[i].toNat:Int) == d)=true:=by rw[beq_iff_eq,l];exact D.out.symm
    have p:=dJ l;clear l;go_wp2_with (at_builtin;refine oG rfl _ _ rfl rfl (ts:=ts) (j.out.1) (s.extract f i) (by simp[Act.eval]) t.out j.out.2.1.size ?_;intro u z C g r;have q:=dJ g;have m:Hid (Gr w C):=Gr.below j.out.2.1 r (pS _);clear g);go_roundw;case rel=>exact⟨i+1,i+1,ts++[s.extract f i],u,z,by omega,pS _,by go_num,by go_num,by rw[pT];rfl,dJ ⟨by rw[pT];exact q.out,m.out,fun h=>Tx.wi_cut (j.out.2.2.1 (by omega)) (by rw[I.out,p.out]),fun h=>by omega⟩⟩
    case measure=>simp[intOf]<;>omega
   ·have H:((s[i].toNat:Int) == d)=false:=by
     rw[beq_eq_false_iff_ne];intro e;apply l;apply UInt8.toNat_inj.1;have:=D.out;omega
    have p:=dJ l;clear l;go_wp2;go_roundw;case rel=>exact⟨i+1,f,ts,A,c,by omega,by omega,by go_num,rfl,rfl,dJ ⟨j.out.1,j.out.2.1,fun h=>Tx.wi_skip (j.out.2.2.1 (by omega)) I.out p.out,fun h=>by omega⟩⟩
    case measure=>simp[intOf]<;>omega
theorem eJ (y:UInt8)(d:Int)(hd:d=y.toNat)(s:List UInt8)(hs:s.length<=90000)(w:World):Calls prog 37 #[.string (bs s),.int .u8 d] w fun e w'=>∃v,e=.returned v/\Hid (WordsF w.heap.size w' v (Tx.cutS y s))/\Gr w w':=by have h:=mT y d hd (bs s) (by rw[dv];exact hs) w;rw[dt]at h;exact h
theorem jH (s:ByteArray)(hm:s.size<=90000)(w:World):Calls prog 70 #[.string s] w (RS (.int .i64 (Tx.numR s.data.toList)) w):=by
 have q:Hid (s.data.toList.length=s.size):=dJ (by rw[Array.length_toList];rfl)
 go_enter func70, ntmps70
 go_wp2
 go_loop [3,4] (fun s3 s4=>∃k n:Nat,k<=s.size/\s4=.int .i64 k/\s3=.int .i64 n/\n<=42949672969/\Hid (Tx.numR s.data.toList=Tx.numRf n (s.data.toList.drop k))) (fun _ s4=>s.size-(intOf s4).toNat)
 case atStart=>exact⟨0,0,by omega,rfl,rfl,by omega,dJ rfl⟩
 case round =>
  obtain⟨k,n,E,rfl,rfl,G,p⟩:=hrel;by_cases u:k<s.size
  ·have l:s.data.toList[k]?=some s[k]:=by
    rw[oY (by rw[q.out];exact u)];rfl
   obtain⟨c,g⟩:=xJ (s[k])
   have hd:s.data.toList.drop k=c::s.data.toList.drop (k+1):=by have F:=q.out;rw[po (by omega)];rw[oY (by omega)]at l;injection l with l;rw[l,g]
   have j:Hid (Tx.numR s.data.toList=if c.toNat<48\/57<c.toNat\/4294967296<=(n:Int) then 0 else Tx.numRf (10*(n:Int)+((c.toNat:Int)-48)) (s.data.toList.drop (k+1))):=dJ (by rw[p.out,hd];rfl);have m:=dJ g;have z0:(0:Int)<=(k:Int):=by omega
   have H:(k:Int)<(s.size:Int):=by omega
   clear l hd p;by_cases b1:s[k].toNat<48
   ·have d:Hid (Tx.numR s.data.toList=0):=dJ (by rw[j.out,pB (.inl (by rw[<-g];exact b1))]);have r:decide ((s[k].toNat:Int)<48)=true:=by simp;omega
    clear g m;go_wp2;go_ret;exact⟨df d.out.symm,rfl⟩
   by_cases b2:57<s[k].toNat
   ·have d:Hid (Tx.numR s.data.toList=0):=dJ (by rw[j.out,pB (.inr (.inl (by rw[<-g];exact b2)))]);have r:decide ((s[k].toNat:Int)<48)=false:=by simp;omega
    have y:decide ((57:Int)<(s[k].toNat:Int))=true:=by simp;omega
    clear g m;go_wp2;go_ret;exact⟨df d.out.symm,rfl⟩
   by_cases A:4294967296<=n
   ·have d:Hid (Tx.numR s.data.toList=0):=dJ (by rw[j.out,pB (.inr (.inr (by omega)))]);have r:decide ((s[k].toNat:Int)<48)=false:=by simp;omega
    have y:decide ((57:Int)<(s[k].toNat:Int))=false:=by simp;omega
    have t:(4294967296:Int)<=(n:Int):=by omega
    clear g m;go_wp2;go_ret;exact⟨df d.out.symm,rfl⟩
   ·have d:Hid (Tx.numR s.data.toList=Tx.numRf (10*(n:Int)+((s[k].toNat:Int)-48)) (s.data.toList.drop (k+1))):=dJ (by rw[j.out,pC (by rw[<-g];omega),g]);have r:decide ((s[k].toNat:Int)<48)=false:=by simp;omega
    have y:decide ((57:Int)<(s[k].toNat:Int))=false:=by simp;omega
    have t:¬(4294967296:Int)<=(n:Int):=by omega
    have B:(48:Int)<=(s[k].toNat:Int):=by omega
    have C:(s[k].toNat:Int)<=57:=by omega
    have D:(n:Int)<4294967296:=by omega
    clear g m;go_wp2;go_round;case rel=>exact⟨k+1,10*n+(s[k].toNat-48),by omega,by go_num,congrArg (Value.int .i64) (by omega),by omega,dJ (by rw[d.out];congr 1;omega)⟩
    case measure=>simp[intOf]<;>omega
  ·have z:k=s.size:=by omega
   have j:Hid (Tx.numR s.data.toList=if 4294967296<=(n:Int) then 0 else (n:Int)):=dJ (by rw[p.out,List.drop_of_length_le (by rw[q.out];omega)];rfl);have hd:decide ((k:Int)<(s.size:Int))=false:=by simp;omega
   clear p;by_cases A:4294967296<=n
   ·have d:Hid (Tx.numR s.data.toList=0):=dJ (by rw[j.out,pB (by omega)]);have t:(4294967296:Int)<=(n:Int):=by omega
    clear z;go_wp2;go_ret;exact⟨df d.out.symm,rfl⟩
   ·have d:Hid (Tx.numR s.data.toList=(n:Int)):=dJ (by rw[j.out,pC (by omega)]);have t:¬(4294967296:Int)<=(n:Int):=by omega
    clear z;go_wp2;go_ret;exact⟨df d.out.symm,rfl⟩
theorem eK (s:List UInt8)(hs:s.length<=90000)(w:World):Calls prog 70 #[.string (bs s)] w (RS (.int .i64 (Tx.numR s)) w):=by have h:=jH (bs s) (by rw[dv];exact hs) w;rw[dt]at h;exact h

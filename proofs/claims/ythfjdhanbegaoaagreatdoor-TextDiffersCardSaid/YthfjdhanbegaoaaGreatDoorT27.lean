/- Parts. -/
import Derived.Test.YthfjdhanbegaoaaGreatDoorT25
import Derived.Test.YthfjdhanbegaoaaGreatDoorT26
import Derived.Lib.AppendIntMem
import Derived.Lib.AtoiErrMem
set_option linter.unusedSimpArgs false
set_option linter.unusedVariables false
set_option maxRecDepth 100000
set_option maxHeartbeats 16000000
open Go.Proofs.Tryz
namespace Go.Proofs.YthfjdhanbegaoaaGreatDoor
open Go.RowKit Go.Sort
structure TabW (w:World):Prop where
 pow:Lib.TabIs prog w "internal/strconv.uint64pow10" .u64 Lib.pow10Tab
 maxLen:∃m,w.cell? ⟨0,0,none⟩=some (.int .i64 m)
 syn:∃tp p,w.var? prog "strconv.ErrSyntax" = some #[.iface tp p]
 rng:∃tp p,w.var? prog "strconv.ErrRange" = some #[.iface tp p]
theorem mK {w w':World}{n:String}{cs:Array Value}(h:w.var? prog n=some cs)(g:Gr w w'):w'.var? prog n=some cs:=by
 unfold World.var? at h ⊢
 cases hg:(prog).globalNamed n with
 | none=>rw[hg]at h;simp at h
 | some b =>
  rw[hg]at h;simp only[Option.bind_some]at h ⊢
  cases hb:w.heap[b]? with
  | none=>rw[hb]at h;simp at h
  | some o =>
   rw[hb]at h;rw[g.heap b (pf.1 hb).1,hb];exact h
theorem nx {w w':World}{n:String}{k:IntKind}{zs:List Int}(h:Lib.TabIs prog w n k zs)(g:Gr w w'):Lib.TabIs prog w' n k zs:=mK h g
theorem TabW.gr {w w':World}(h:TabW w)(g:Gr w w'):TabW w':=by obtain⟨j,⟨m,d⟩,⟨tp,p,l⟩,⟨t,q,r⟩⟩:=h;exact⟨nx j g,⟨m,(g.cell 0 0 (ig d)).trans d⟩,⟨tp,p,mK l g⟩,⟨t,q,mK r g⟩⟩
theorem lI (w:World)(k:Nat)(os:Array Obj):Gr w (Sort.grow (w.drewN k) os):=Lib.below_grow w.heap.size w (pS _) k os
theorem fW (n:Int)(h0:0<=n)(h1:n<4294967296)(w:World)(ht:TabW w):Calls prog 73 #[.int .i64 n] w (RG (.string (bs (Tx.num n))) w) :=
 (Tryz.strconv_Itoa n (by omega) (by omega) w ht.pow).mono fun _ _ ⟨d,k,os,g⟩=>⟨d,g ▸ lI w k os⟩
theorem kl (u:Nat)(hu:u<4294967296)(w:World)(ht:TabW w):Calls prog 115 #[.int .u64 (u:Int),.int .i64 10] w (RG (.string ⟨(Lib.decDigits u).toArray⟩) w):=by
 by_cases E:u<100
 ·have z:(u:Int)<100:=by omega
  go_enter func115, ntmps115
  go_wp2_with (go_at_call 143;refine(Tryz.internal_strconv_small u E _).mono ?_;rintro e w' ⟨rfl,rfl⟩);go_ret;exact⟨rfl,qj _⟩
 ·have z:¬(u:Int)<100:=by omega
  have q:1<=u:=by omega
  have d:u<18446744073709551616:=by omega
  have y:Lib.nDigits u<=20:=by have:=Lib.numDigits_eq u q d;split at this<;>omega
  have p:(prog).arrayLen 167=24:=by kernel_rfl
  have F:∀W,(Instr.sliceAt 167 (.pointer (some ⟨w.heap.size,0,none⟩)) none (some (.int .i64 (Lib.nDigits u:Int))) none).run prog W=.ok (.slice (some ⟨w.heap.size,0,none⟩) (Lib.nDigits u) 24) W:=fun W=>by
   rw[run_sliceAt_array_h W 167 ⟨w.heap.size,0,none⟩ (by kernel_rfl) .i64 (Lib.nDigits u:Int) (by omega) (by rw[p];omega)]
   go_simp
  have l:=Lib.holds_zero0 w 167 (Lib.nDigits u) (by omega);have g:=Tryz.internal_strconv_formatBase10 w.heap.size 0 24 u (Array.replicate (Lib.nDigits u) 0) (w.alloc (.cells Lib.zeros24 167)) l (by rw[Array.size_replicate];exact Lib.lt_pow_nDigits u) d (by rw[Array.size_replicate];omega);rw[Array.size_replicate]at g;have r:=dJ l;have B:=dJ ht.pow;clear l p ht
  go_enter func115, ntmps115
  go_wp2_with (first|(go_at_call 144;refine(Tryz.internal_strconv_numDigits u q d _ (Lib.tabIs_alloc B.out _)).mono ?_;rintro e w' ⟨rfl,rfl⟩))
  go_at_call 145
  refine g.mono ?_;rintro e w' ⟨rfl,k,G,m,rfl,t⟩
  have D:(convert 36 9 (.slice (some ⟨w.heap.size,0,none⟩) (Lib.nDigits u) 24)).run prog ((putRow (fun(b:UInt8)=>Value.int .u8 (b.toNat:Int)) (w.alloc (.cells Lib.zeros24 167)) w.heap.size 0 m).drewN k)=.ok (.string ⟨(Lib.decDigits u).toArray⟩) ((putRow (fun(b:UInt8)=>Value.int .u8 (b.toNat:Int)) (w.alloc (.cells Lib.zeros24 167)) w.heap.size 0 m).drewN k):=by
   have h:=run_convert_bytes_back (P:=prog) ((putRow (fun(b:UInt8)=>Value.int .u8 (b.toNat:Int)) (w.alloc (.cells Lib.zeros24 167)) w.heap.size 0 m).drewN k) 36 9 5 ⟨w.heap.size,0,none⟩ 24 (Lib.decDigits u) underlying36 underlying5 underlying9 (fun j hj=>by
     rw[Lib.row_is_numeral t j hj,Lib.add_plain,World.cell?_drewN]
     exact cell?_putRow (fun(b:UInt8)=>Value.int .u8 (b.toNat:Int)) _ w.heap.size 0 _ m r.out (by rw[t.size,Array.size_replicate]) j (by rw[t.size];rw[Lib.decDigits_length]at hj;exact hj))
   rw[Lib.decDigits_length]at h;exact h
  go_wp2;go_ret;obtain⟨os,C⟩:=Lib.fin_at w (.cells Lib.zeros24 167) m k 0;exact⟨rfl,C ▸ lI w k os⟩
theorem iM (n:Int)(h0:0<=n)(h1:n<4294967296)(w:World)(ht:TabW w):Calls prog 75 #[.int .u64 n,.int .i64 10] w (RG (.string (bs (Tx.num n))) w):=by
 obtain⟨u,rfl⟩:=pg h0;have C:=dJ (kl u (by omega) w ht);have d:Hid ((⟨(Lib.decDigits u).toArray⟩:ByteArray)=bs (Tx.num (u:Int))):=dJ (by rw[Tx.num_dec h0];rfl);clear ht
 go_enter func75, ntmps75
 go_wp2_with (go_at_call 115;refine C.out.mono ?_;rintro e w' ⟨rfl,g1⟩);go_ret;exact⟨by rw[d.out];rfl,g1⟩

/- Parts. -/
import Derived.Test.YthfjdhanbegaoaaGreatDoorT24
import Derived.Test.YthfjdhanbegaoaaGreatDoorT21
set_option linter.unusedSimpArgs false
set_option linter.unusedVariables false
set_option maxRecDepth 100000
set_option maxHeartbeats 16000000
open Go.Proofs.Tryz
namespace Go.Proofs.YthfjdhanbegaoaaGreatDoor
open Go.RowKit
def bs (l:List UInt8):ByteArray:=⟨l.toArray⟩
theorem dv (l:List UInt8):(bs l).size=l.length:=by show l.toArray.size=_;simp
theorem dt (l:List UInt8):(bs l).data.toList=l:=by show l.toArray.toList=l;simp
theorem ie (s:ByteArray):bs s.data.toList=s:=by obtain⟨⟨l⟩⟩:=s;rfl
theorem om (a b:List UInt8):bs a++bs b=bs (a++b):=by rw[<-ie (bs a++bs b),ByteArray.data_append,Array.toList_append,dt,dt]
theorem oo {a b:List UInt8}(h:bs a=bs b):a=b:=by rw[<-dt a,h,dt]
theorem dB (l:List UInt8):(bs l).toList=l:=by rw[Lib.toList_data,dt]
theorem iq {z l:List UInt8}(h:z=l):((bs z).toList == l)=true:=by rw[dB];exact beq_iff_eq.2 h
theorem gm {z l:List UInt8}(h:z≠l):((bs z).toList == l)=false:=by rw[dB];exact beq_eq_false_iff_ne.2 h
theorem dZ {z l:List UInt8}(h:z=l):((bs z).toList == (bs l).toList)=true:=by rw[dB,dB];exact beq_iff_eq.2 h
theorem eW {z l:List UInt8}(h:z≠l):((bs z).toList == (bs l).toList)=false:=by rw[dB,dB];exact beq_eq_false_iff_ne.2 h
theorem dq (w:World)(a b:List UInt8)(h:a.length+b.length<=9223372036854775807):(Op.stringOp .add (bs a) (bs b)).run prog w=.ok (.string (bs (a++b))) w:=by rw[run_string_add_sum (P:=prog) w (bs a) (bs b) (by rw[dv,dv];exact h),om]
theorem oB {P:Program}{o:Oper}{a:Act}{w w':World}{v:Value}{K:Act->World->Prop}{Q:Exit->Act->World->Prop}(hr:(execOp a.eval o).run P w=.ok (.value v) w')(h:K (a.put o.dst v) w'):o.wp P a w K Q:=by unfold Oper.wp;rw[hr];exact h
theorem ep {P:Program}{ops:Array Oper}{o:Oper}{rest:List Oper}{a:Act}{w w':World}{v:Value}{Q:Exit->Act->World->Prop}(hgd:o.guard=none)(hr:(execOp a.eval o).run P w=.ok (.value v) w')(h:wpList P ops Q rest (a.put o.dst v) w'):wpList P ops Q (o::rest) a w :=
 wpList_plain hgd fun _ d=>oB hr (d _ _ h)
def eh:Array Value:=(Tx.names.map fun l=>Value.string (bs l)).toArray
theorem nf {n:Nat}(h:n<33):eh[n]?=some (.string (bs (Tx.names.getD n []))):=by unfold eh;have d:n<Tx.names.length:=h;rw[List.getElem?_toArray,pk,pb,oY d];rfl
theorem eC (w:World):Calls prog 40 #[] w fun e w'=>e=.returned (.slice (some ⟨w.heap.size,0,none⟩) 33 33)/\w'=w.alloc (.cells eh 9):=by
 go_enter func40, ntmps40
 refine wp_seq (wp_region_list ?_);refine ep (v:=.slice none 0 0) (w':=w) rfl (by kernel_rfl) ?_;refine wpList_nil ?_;refine wp_seq (wp_region_list ?_);refine ep (v:=.slice (some ⟨w.heap.size,0,none⟩) 33 33) (w':=w.alloc (.cells eh 9)) rfl (by kernel_rfl) ?_;refine ep (v:=.slice (some ⟨w.heap.size,0,none⟩) 33 33) (w':=w.alloc (.cells eh 9)) rfl (by kernel_rfl) ?_;refine wpList_nil ?_;refine wp_ret ?_;refine pA (results_tmp rfl _ _ _) rfl ?_;exact⟨rfl,rfl⟩
theorem eD (w:World):Calls prog 41 #[] w fun e w'=>e=.returned (.slice (some ⟨w.heap.size,0,none⟩) 33 33)/\w'=w.alloc (.cells eh 9):=by
 go_enter func41, ntmps41
 refine wp_seq (wp_region_list ?_);refine ep (v:=.slice none 0 0) (w':=w) rfl (by kernel_rfl) ?_;refine wpList_nil ?_;refine wp_seq (wp_region_list ?_);refine ep (v:=.slice (some ⟨w.heap.size,0,none⟩) 33 33) (w':=w.alloc (.cells eh 9)) rfl (by kernel_rfl) ?_;refine ep (v:=.slice (some ⟨w.heap.size,0,none⟩) 33 33) (w':=w.alloc (.cells eh 9)) rfl (by kernel_rfl) ?_;refine wpList_nil ?_;refine wp_ret ?_;refine pA (results_tmp rfl _ _ _) rfl ?_;exact⟨rfl,rfl⟩

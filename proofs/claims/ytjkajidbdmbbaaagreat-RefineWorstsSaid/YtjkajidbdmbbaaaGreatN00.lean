import Derived.Lib.Hide
import Derived.Laws.Rows
set_option linter.unusedSimpArgs false
set_option linter.unusedVariables false
set_option maxRecDepth 100000
set_option maxHeartbeats 16000000
namespace Go.Proofs.YtjkajidbdmbbaaaGreat
open Go.RowKit
variable {k:Nat}{T:TypeId}{w:World}
namespace Ref
end Ref
namespace Rn
end Rn
namespace Wd
end Wd
namespace Ir
end Ir
namespace Rf
end Rf
theorem xJ {α:Sort _}(a:α):∃x,a=x:=⟨a,rfl⟩
theorem dJ {p:Prop}(h:p):Hid p:=Lib.hid h
theorem crw2 {row:Array Value}{fr:Nat × Nat}(h:w.heap[k]?=some (.cells row T fr))(i0 i1:Nat):w.cell? ⟨k,i0,none⟩=row[i0]?/\w.cell? ⟨k,i1,none⟩=row[i1]?:=⟨cell_of_row _ _ _ _ _ _ h,cell_of_row _ _ _ _ _ _ h⟩
theorem crw3 {row:Array Value}{fr:Nat × Nat}(h:w.heap[k]?=some (.cells row T fr))(i0 i1 i2:Nat):w.cell? ⟨k,i0,none⟩=row[i0]?/\w.cell? ⟨k,i1,none⟩=row[i1]?/\w.cell? ⟨k,i2,none⟩=row[i2]?:=⟨cell_of_row _ _ _ _ _ _ h,cell_of_row _ _ _ _ _ _ h,cell_of_row _ _ _ _ _ _ h⟩
theorem crw4 {row:Array Value}{fr:Nat × Nat}(h:w.heap[k]?=some (.cells row T fr))(i0 i1 i2 i3:Nat):w.cell? ⟨k,i0,none⟩=row[i0]?/\w.cell? ⟨k,i1,none⟩=row[i1]?/\w.cell? ⟨k,i2,none⟩=row[i2]?/\w.cell? ⟨k,i3,none⟩=row[i3]?:=⟨cell_of_row _ _ _ _ _ _ h,cell_of_row _ _ _ _ _ _ h,cell_of_row _ _ _ _ _ _ h,cell_of_row _ _ _ _ _ _ h⟩
theorem crw5 {row:Array Value}{fr:Nat × Nat}(h:w.heap[k]?=some (.cells row T fr))(i0 i1 i2 i3 i4:Nat):w.cell? ⟨k,i0,none⟩=row[i0]?/\w.cell? ⟨k,i1,none⟩=row[i1]?/\w.cell? ⟨k,i2,none⟩=row[i2]?/\w.cell? ⟨k,i3,none⟩=row[i3]?/\w.cell? ⟨k,i4,none⟩=row[i4]?:=⟨cell_of_row _ _ _ _ _ _ h,cell_of_row _ _ _ _ _ _ h,cell_of_row _ _ _ _ _ _ h,cell_of_row _ _ _ _ _ _ h,cell_of_row _ _ _ _ _ _ h⟩
theorem crw6 {row:Array Value}{fr:Nat × Nat}(h:w.heap[k]?=some (.cells row T fr))(i0 i1 i2 i3 i4 i5:Nat):w.cell? ⟨k,i0,none⟩=row[i0]?/\w.cell? ⟨k,i1,none⟩=row[i1]?/\w.cell? ⟨k,i2,none⟩=row[i2]?/\w.cell? ⟨k,i3,none⟩=row[i3]?/\w.cell? ⟨k,i4,none⟩=row[i4]?/\w.cell? ⟨k,i5,none⟩=row[i5]?:=⟨cell_of_row _ _ _ _ _ _ h,cell_of_row _ _ _ _ _ _ h,cell_of_row _ _ _ _ _ _ h,cell_of_row _ _ _ _ _ _ h,cell_of_row _ _ _ _ _ _ h,cell_of_row _ _ _ _ _ _ h⟩
theorem frw2 {row:Array Value}(h:w.heap[k]?=some (.cells row T (0,0)))(i0 i1:Nat):w.frozen? ⟨k,i0,none⟩=false/\w.frozen? ⟨k,i1,none⟩=false:=⟨frozen_of_row _ _ _ _ _ h,frozen_of_row _ _ _ _ _ h⟩
theorem frw3 {row:Array Value}(h:w.heap[k]?=some (.cells row T (0,0)))(i0 i1 i2:Nat):w.frozen? ⟨k,i0,none⟩=false/\w.frozen? ⟨k,i1,none⟩=false/\w.frozen? ⟨k,i2,none⟩=false:=⟨frozen_of_row _ _ _ _ _ h,frozen_of_row _ _ _ _ _ h,frozen_of_row _ _ _ _ _ h⟩
theorem frw4 {row:Array Value}(h:w.heap[k]?=some (.cells row T (0,0)))(i0 i1 i2 i3:Nat):w.frozen? ⟨k,i0,none⟩=false/\w.frozen? ⟨k,i1,none⟩=false/\w.frozen? ⟨k,i2,none⟩=false/\w.frozen? ⟨k,i3,none⟩=false:=⟨frozen_of_row _ _ _ _ _ h,frozen_of_row _ _ _ _ _ h,frozen_of_row _ _ _ _ _ h,frozen_of_row _ _ _ _ _ h⟩
theorem frw5 {row:Array Value}(h:w.heap[k]?=some (.cells row T (0,0)))(i0 i1 i2 i3 i4:Nat):w.frozen? ⟨k,i0,none⟩=false/\w.frozen? ⟨k,i1,none⟩=false/\w.frozen? ⟨k,i2,none⟩=false/\w.frozen? ⟨k,i3,none⟩=false/\w.frozen? ⟨k,i4,none⟩=false:=⟨frozen_of_row _ _ _ _ _ h,frozen_of_row _ _ _ _ _ h,frozen_of_row _ _ _ _ _ h,frozen_of_row _ _ _ _ _ h,frozen_of_row _ _ _ _ _ h⟩
theorem frw6 {row:Array Value}(h:w.heap[k]?=some (.cells row T (0,0)))(i0 i1 i2 i3 i4 i5:Nat):w.frozen? ⟨k,i0,none⟩=false/\w.frozen? ⟨k,i1,none⟩=false/\w.frozen? ⟨k,i2,none⟩=false/\w.frozen? ⟨k,i3,none⟩=false/\w.frozen? ⟨k,i4,none⟩=false/\w.frozen? ⟨k,i5,none⟩=false:=⟨frozen_of_row _ _ _ _ _ h,frozen_of_row _ _ _ _ _ h,frozen_of_row _ _ _ _ _ h,frozen_of_row _ _ _ _ _ h,frozen_of_row _ _ _ _ _ h,frozen_of_row _ _ _ _ _ h⟩
theorem xR:type_of% @List.getElem?_eq_getElem:=@List.getElem?_eq_getElem
theorem xS:type_of% @List.getElem?_eq_some_iff:=@List.getElem?_eq_some_iff
theorem xT:type_of% @List.mem_of_getElem?:=@List.mem_of_getElem?
theorem xU:type_of% @List.getD_eq_getElem?_getD:=@List.getD_eq_getElem?_getD
theorem xV:type_of% @List.getElem?_cons_succ:=@List.getElem?_cons_succ
theorem xW:type_of% @List.getElem?_cons_zero:=@List.getElem?_cons_zero
theorem xX:type_of% @List.getElem?_toArray:=@List.getElem?_toArray
theorem xY:type_of% @Array.getElem?_eq_some_iff:=@Array.getElem?_eq_some_iff
theorem xZ:type_of% @Int.eq_ofNat_of_zero_le:=@Int.eq_ofNat_of_zero_le
theorem ya:type_of% @Int.toNat_natCast:=@Int.toNat_natCast
theorem yc:type_of% @List.getElem?_map:=@List.getElem?_map
theorem yd:type_of% @List.getElem?_append_left:=@List.getElem?_append_left
theorem ye:type_of% @List.getElem?_append_right:=@List.getElem?_append_right
theorem yf:type_of% @List.getElem?_take:=@List.getElem?_take
theorem yg:type_of% @List.drop_eq_getElem_cons:=@List.drop_eq_getElem_cons
theorem yh:type_of% @List.take_of_length_le:=@List.take_of_length_le
theorem yi:type_of% @List.getElem?_eq_none:=@List.getElem?_eq_none
theorem yj:type_of% @List.drop_eq_nil_of_le:=@List.drop_eq_nil_of_le
theorem yk:type_of% @List.getElem?_replicate:=@List.getElem?_replicate
theorem yl:type_of% @List.length_map:=@List.length_map
theorem ym:type_of% @List.all_eq_true:=@List.all_eq_true
theorem yo:type_of% @cell_of_row:=@cell_of_row
theorem yp:type_of% @frozen_of_row:=@frozen_of_row
theorem yq:type_of% @bodyPost_ret:=@bodyPost_ret
theorem yr:type_of% @if_pos:=@if_pos
theorem yt:type_of% @if_neg:=@if_neg
theorem yu:type_of% @Bool.and_eq_true:=@Bool.and_eq_true
theorem yv:type_of% @List.take_length:=@List.take_length
theorem yw:type_of% @Nat.lt_or_ge:=@Nat.lt_or_ge
theorem yx:type_of% @List.take_succ_eq_append_getElem:=@List.take_succ_eq_append_getElem
theorem yy:type_of% @RowKit.Below.heap_setCell:=@RowKit.Below.heap_setCell
theorem yz:type_of% @List.mem_append:=@List.mem_append
theorem yA:type_of% @List.take_succ_cons:=@List.take_succ_cons
theorem yB:type_of% @List.eq_nil_of_length_eq_zero:=@List.eq_nil_of_length_eq_zero
theorem yC:type_of% @List.getElem?_set_self:=@List.getElem?_set_self
theorem yD:type_of% @List.drop_succ_cons:=@List.drop_succ_cons
theorem yE:type_of% @World.cell?_of_block:=@World.cell?_of_block
theorem yF:type_of% @List.setIfInBounds_toArray:=@List.setIfInBounds_toArray
theorem yG:type_of% @List.any_eq_true:=@List.any_eq_true
theorem yH:type_of% @Int.ediv_nonneg:=@Int.ediv_nonneg
theorem yI:type_of% @Nat.zero_le:=@Nat.zero_le
theorem yJ:type_of% @Nat.le_refl:=@Nat.le_refl
theorem yK:type_of% @List.length_append:=@List.length_append

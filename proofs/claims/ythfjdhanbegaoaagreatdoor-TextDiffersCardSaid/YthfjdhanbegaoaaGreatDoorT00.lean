/- Parts. -/
import Derived.Lib.Hide
import Derived.Laws.Rows
set_option linter.unusedSimpArgs false
set_option linter.unusedVariables false
set_option maxRecDepth 100000
set_option maxHeartbeats 16000000
namespace Go.Proofs.YthfjdhanbegaoaaGreatDoor
open Go.RowKit
theorem xJ {α:Sort _}(a:α):∃x,a=x:=⟨a,rfl⟩
theorem dJ {p:Prop}(h:p):Hid p:=Lib.hid h
theorem crw2 {w:World}{k:Nat}{row:Array Value}{T:TypeId}{fr:Nat × Nat}(h:w.heap[k]?=some (.cells row T fr))(i0 i1:Nat):w.cell? ⟨k,i0,none⟩=row[i0]?/\w.cell? ⟨k,i1,none⟩=row[i1]?:=⟨cell_of_row _ _ _ _ _ _ h,cell_of_row _ _ _ _ _ _ h⟩
theorem crw3 {w:World}{k:Nat}{row:Array Value}{T:TypeId}{fr:Nat × Nat}(h:w.heap[k]?=some (.cells row T fr))(i0 i1 i2:Nat):w.cell? ⟨k,i0,none⟩=row[i0]?/\w.cell? ⟨k,i1,none⟩=row[i1]?/\w.cell? ⟨k,i2,none⟩=row[i2]?:=⟨cell_of_row _ _ _ _ _ _ h,cell_of_row _ _ _ _ _ _ h,cell_of_row _ _ _ _ _ _ h⟩
theorem crw4 {w:World}{k:Nat}{row:Array Value}{T:TypeId}{fr:Nat × Nat}(h:w.heap[k]?=some (.cells row T fr))(i0 i1 i2 i3:Nat):w.cell? ⟨k,i0,none⟩=row[i0]?/\w.cell? ⟨k,i1,none⟩=row[i1]?/\w.cell? ⟨k,i2,none⟩=row[i2]?/\w.cell? ⟨k,i3,none⟩=row[i3]?:=⟨cell_of_row _ _ _ _ _ _ h,cell_of_row _ _ _ _ _ _ h,cell_of_row _ _ _ _ _ _ h,cell_of_row _ _ _ _ _ _ h⟩
theorem crw5 {w:World}{k:Nat}{row:Array Value}{T:TypeId}{fr:Nat × Nat}(h:w.heap[k]?=some (.cells row T fr))(i0 i1 i2 i3 i4:Nat):w.cell? ⟨k,i0,none⟩=row[i0]?/\w.cell? ⟨k,i1,none⟩=row[i1]?/\w.cell? ⟨k,i2,none⟩=row[i2]?/\w.cell? ⟨k,i3,none⟩=row[i3]?/\w.cell? ⟨k,i4,none⟩=row[i4]?:=⟨cell_of_row _ _ _ _ _ _ h,cell_of_row _ _ _ _ _ _ h,cell_of_row _ _ _ _ _ _ h,cell_of_row _ _ _ _ _ _ h,cell_of_row _ _ _ _ _ _ h⟩
theorem crw6 {w:World}{k:Nat}{row:Array Value}{T:TypeId}{fr:Nat × Nat}(h:w.heap[k]?=some (.cells row T fr))(i0 i1 i2 i3 i4 i5:Nat):w.cell? ⟨k,i0,none⟩=row[i0]?/\w.cell? ⟨k,i1,none⟩=row[i1]?/\w.cell? ⟨k,i2,none⟩=row[i2]?/\w.cell? ⟨k,i3,none⟩=row[i3]?/\w.cell? ⟨k,i4,none⟩=row[i4]?/\w.cell? ⟨k,i5,none⟩=row[i5]?:=⟨cell_of_row _ _ _ _ _ _ h,cell_of_row _ _ _ _ _ _ h,cell_of_row _ _ _ _ _ _ h,cell_of_row _ _ _ _ _ _ h,cell_of_row _ _ _ _ _ _ h,cell_of_row _ _ _ _ _ _ h⟩
theorem frw2 {w:World}{k:Nat}{row:Array Value}{T:TypeId}(h:w.heap[k]?=some (.cells row T (0,0)))(i0 i1:Nat):w.frozen? ⟨k,i0,none⟩=false/\w.frozen? ⟨k,i1,none⟩=false:=⟨frozen_of_row _ _ _ _ _ h,frozen_of_row _ _ _ _ _ h⟩
theorem frw3 {w:World}{k:Nat}{row:Array Value}{T:TypeId}(h:w.heap[k]?=some (.cells row T (0,0)))(i0 i1 i2:Nat):w.frozen? ⟨k,i0,none⟩=false/\w.frozen? ⟨k,i1,none⟩=false/\w.frozen? ⟨k,i2,none⟩=false:=⟨frozen_of_row _ _ _ _ _ h,frozen_of_row _ _ _ _ _ h,frozen_of_row _ _ _ _ _ h⟩
theorem frw4 {w:World}{k:Nat}{row:Array Value}{T:TypeId}(h:w.heap[k]?=some (.cells row T (0,0)))(i0 i1 i2 i3:Nat):w.frozen? ⟨k,i0,none⟩=false/\w.frozen? ⟨k,i1,none⟩=false/\w.frozen? ⟨k,i2,none⟩=false/\w.frozen? ⟨k,i3,none⟩=false:=⟨frozen_of_row _ _ _ _ _ h,frozen_of_row _ _ _ _ _ h,frozen_of_row _ _ _ _ _ h,frozen_of_row _ _ _ _ _ h⟩
theorem frw5 {w:World}{k:Nat}{row:Array Value}{T:TypeId}(h:w.heap[k]?=some (.cells row T (0,0)))(i0 i1 i2 i3 i4:Nat):w.frozen? ⟨k,i0,none⟩=false/\w.frozen? ⟨k,i1,none⟩=false/\w.frozen? ⟨k,i2,none⟩=false/\w.frozen? ⟨k,i3,none⟩=false/\w.frozen? ⟨k,i4,none⟩=false:=⟨frozen_of_row _ _ _ _ _ h,frozen_of_row _ _ _ _ _ h,frozen_of_row _ _ _ _ _ h,frozen_of_row _ _ _ _ _ h,frozen_of_row _ _ _ _ _ h⟩
theorem frw6 {w:World}{k:Nat}{row:Array Value}{T:TypeId}(h:w.heap[k]?=some (.cells row T (0,0)))(i0 i1 i2 i3 i4 i5:Nat):w.frozen? ⟨k,i0,none⟩=false/\w.frozen? ⟨k,i1,none⟩=false/\w.frozen? ⟨k,i2,none⟩=false/\w.frozen? ⟨k,i3,none⟩=false/\w.frozen? ⟨k,i4,none⟩=false/\w.frozen? ⟨k,i5,none⟩=false:=⟨frozen_of_row _ _ _ _ _ h,frozen_of_row _ _ _ _ _ h,frozen_of_row _ _ _ _ _ h,frozen_of_row _ _ _ _ _ h,frozen_of_row _ _ _ _ _ h,frozen_of_row _ _ _ _ _ h⟩
theorem oY:type_of% @List.getElem?_eq_getElem:=@List.getElem?_eq_getElem
theorem oZ:type_of% @List.getElem?_eq_some_iff:=@List.getElem?_eq_some_iff
theorem pa:type_of% @List.mem_of_getElem?:=@List.mem_of_getElem?
theorem pb:type_of% @List.getD_eq_getElem?_getD:=@List.getD_eq_getElem?_getD
theorem pf:type_of% @Array.getElem?_eq_some_iff:=@Array.getElem?_eq_some_iff
theorem pg:type_of% @Int.eq_ofNat_of_zero_le:=@Int.eq_ofNat_of_zero_le
theorem pj:type_of% @Int.toNat_natCast:=@Int.toNat_natCast
theorem pk:type_of% @List.getElem?_map:=@List.getElem?_map
theorem pl:type_of% @List.getElem?_append_left:=@List.getElem?_append_left
theorem pm:type_of% @List.getElem?_append_right:=@List.getElem?_append_right
theorem pn:type_of% @List.getElem?_take:=@List.getElem?_take
theorem po:type_of% @List.drop_eq_getElem_cons:=@List.drop_eq_getElem_cons
theorem pq:type_of% @List.take_of_length_le:=@List.take_of_length_le
theorem pr:type_of% @List.getElem?_eq_none:=@List.getElem?_eq_none
theorem pt:type_of% @List.drop_eq_nil_of_le:=@List.drop_eq_nil_of_le
theorem pu:type_of% @List.getElem?_replicate:=@List.getElem?_replicate
theorem pv:type_of% @List.length_map:=@List.length_map
theorem pw:type_of% @List.all_eq_true:=@List.all_eq_true
theorem px:type_of% @cell_of_row:=@cell_of_row
theorem pz:type_of% @frozen_of_row:=@frozen_of_row
theorem pA:type_of% @bodyPost_ret:=@bodyPost_ret
theorem pB:type_of% @if_pos:=@if_pos
theorem pC:type_of% @if_neg:=@if_neg
theorem pD:type_of% @Bool.and_eq_true:=@Bool.and_eq_true
theorem pE:type_of% @List.take_length:=@List.take_length
theorem pF:type_of% @Nat.lt_or_ge:=@Nat.lt_or_ge
theorem pG:type_of% @List.take_succ_eq_append_getElem:=@List.take_succ_eq_append_getElem
theorem pI:type_of% @List.mem_append:=@List.mem_append
theorem pJ:type_of% @List.take_succ_cons:=@List.take_succ_cons
theorem pK:type_of% @List.eq_nil_of_length_eq_zero:=@List.eq_nil_of_length_eq_zero
theorem pO:type_of% @List.setIfInBounds_toArray:=@List.setIfInBounds_toArray
theorem pP:type_of% @List.any_eq_true:=@List.any_eq_true
theorem pR:type_of% @Nat.zero_le:=@Nat.zero_le
theorem pS:type_of% @Nat.le_refl:=@Nat.le_refl
theorem pT:type_of% @List.length_append:=@List.length_append

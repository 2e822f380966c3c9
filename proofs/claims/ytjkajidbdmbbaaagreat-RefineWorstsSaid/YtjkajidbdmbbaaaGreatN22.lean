import Derived.Test.YtjkajidbdmbbaaaGreatN00
import Derived.Shelf.Small.Wraps
import Derived.Shelf.Bits.Mul64
import Derived.Shelf.Slices.Turned
import Derived.Shelf.Slices.Clone
import Derived.Shelf.SlicesE.IndexFunc
import Derived.Test.YtjkajidbdmbbaaaGreatProg
set_option linter.unusedSimpArgs false
set_option linter.unusedVariables false
set_option maxRecDepth 100000
set_option maxHeartbeats 16000000
open Go.Proofs.Tryz
namespace Go.Proofs
open Go.Shelf
def Tryz.lays122_ren:Go.Shelf.Ren:=⟨fun|122=>120|215=>150|n=>n,fun|3=>3|4=>4|n=>n,fun|n=>n⟩
theorem Tryz.lays122:Go.Proofs.Lays.n122 prog Tryz.lays122_ren:={
  mixed:=by kernel_rfl
  f122:=func120.trans (congrArg some (by kernel_rfl))
  f215:=func150.trans (congrArg some (by kernel_rfl))
  t3:=underlying3
  a3:=Tryz.isAgg3
  z3:=Tryz.sizeOf3
  v3:=Tryz.zeroValue3
  t4:=underlying4
  a4:=Tryz.isAgg4
  z4:=Tryz.sizeOf4
  v4:=Tryz.zeroValue4 }
open Go.RowKit in
theorem Tryz.cmp_Compare_int (x y:Int)(w:World) :
  Calls prog 120 #[.int .i64 x,.int .i64 y] w fun e w'=>e=.returned (.int .i64 (Lib.compareInt x y))/\w'=w:=Any.cmp_Compare_int Tryz.lays122 x y w
def Tryz.lays264_ren:Go.Shelf.Ren:=⟨fun|264=>225|n=>n,fun|53=>160|46=>95|n=>n,fun|n=>n⟩
theorem Tryz.lays264:Go.Proofs.Lays.n264 prog Tryz.lays264_ren:={
  mixed:=by kernel_rfl
  f264:=func225.trans (congrArg some (by kernel_rfl))
  t46:=underlying95
  a46:=Tryz.isAgg95
  z46:=Tryz.sizeOf95
  v46:=Tryz.zeroValue95
  t53:=underlying160
  a53:=Tryz.isAgg160
  z53:=Tryz.sizeOf160
  v53:=Tryz.zeroValue160 }
open Go.RowKit Go.Lib in
theorem Tryz.bits_Mul64 (x y:Nat)(hx:x<18446744073709551616)(hy:y<18446744073709551616)(w:World) :
  Calls prog 225 #[.int .u64 x,.int .u64 y] w fun e w'=>e=.returned (.tuple #[.int .u64 ((x*y / 18446744073709551616:Nat):Int),.int .u64 ((x*y%18446744073709551616:Nat):Int)])/\w'=w:=Any.bits_Mul64 Tryz.lays264 x y hx hy w
def Tryz.lays108_ren:Go.Shelf.Ren:=⟨fun|108=>127|n=>n,fun|28=>33|3=>3|0=>0|4=>4|n=>n,fun|n=>n⟩
theorem Tryz.lays108:Go.Proofs.Lays.n108 prog Tryz.lays108_ren:={
  mixed:=by kernel_rfl
  f108:=func127.trans (congrArg some (by kernel_rfl))
  t0:=underlying0
  a0:=Tryz.isAgg0
  z0:=Tryz.sizeOf0
  v0:=Tryz.zeroValue0
  t3:=underlying3
  a3:=Tryz.isAgg3
  z3:=Tryz.sizeOf3
  v3:=Tryz.zeroValue3
  t4:=underlying4
  a4:=Tryz.isAgg4
  z4:=Tryz.sizeOf4
  v4:=Tryz.zeroValue4
  t28:=underlying33
  a28:=Tryz.isAgg33
  z28:=Tryz.sizeOf33
  v28:=Tryz.zeroValue33 }
open Go.Lib in
theorem Tryz.slices_Index_int (b off n c:Nat)(zs:List Int)(x:Int)(w:World)(hz:n<=zs.length)(hbig:n<=9223372036854775807)(hc:∀j,j<zs.length->w.cell? ⟨b,off+j,none⟩=some (.int .i64 (zs.getD j 0))) :
  Calls prog 127 #[.slice (some ⟨b,off,none⟩) n c,.int .i64 x] w fun e w'=>e=.returned (.int .i64 (Lib.idxOf (zs.take n) x))/\w'=w:=Any.slices_Index_int Tryz.lays108 b off n c zs x w hz hbig hc
open Go.Lib in
theorem Tryz.slices_Index_int_empty (a:Option Addr)(c:Nat)(x:Int)(w:World) :
  Calls prog 127 #[.slice a 0 c,.int .i64 x] w fun e w'=>e=.returned (.int .i64 (Lib.idxOf [] x))/\w'=w:=Any.slices_Index_int_empty Tryz.lays108 a c x w
def Tryz.lays107_ren:Go.Shelf.Ren:=⟨fun|107=>85|108=>127|n=>n,fun|28=>33|3=>3|4=>4|0=>0|n=>n,fun|n=>n⟩
theorem Tryz.lays107:Go.Proofs.Lays.n107 prog Tryz.lays107_ren:={
  mixed:=by kernel_rfl
  f107:=func85.trans (congrArg some (by kernel_rfl))
  f108:=func127.trans (congrArg some (by kernel_rfl))
  t0:=underlying0
  a0:=Tryz.isAgg0
  z0:=Tryz.sizeOf0
  v0:=Tryz.zeroValue0
  t3:=underlying3
  a3:=Tryz.isAgg3
  z3:=Tryz.sizeOf3
  v3:=Tryz.zeroValue3
  t4:=underlying4
  a4:=Tryz.isAgg4
  z4:=Tryz.sizeOf4
  v4:=Tryz.zeroValue4
  t28:=underlying33
  a28:=Tryz.isAgg33
  z28:=Tryz.sizeOf33
  v28:=Tryz.zeroValue33 }
open Go.Lib in
theorem Tryz.slices_Contains_int (b off n c:Nat)(zs:List Int)(x:Int)(w:World)(hz:n<=zs.length)(hbig:n<=9223372036854775807)(hc:∀j,j<zs.length->w.cell? ⟨b,off+j,none⟩=some (.int .i64 (zs.getD j 0))) :
  Calls prog 85 #[.slice (some ⟨b,off,none⟩) n c,.int .i64 x] w fun e w'=>e=.returned (.bool ((zs.take n).contains x))/\w'=w:=Any.slices_Contains_int Tryz.lays107 b off n c zs x w hz hbig hc
open Go.Lib in
theorem Tryz.slices_Contains_int_empty (a:Option Addr)(c:Nat)(x:Int)(w:World) :
  Calls prog 85 #[.slice a 0 c,.int .i64 x] w fun e w'=>e=.returned (.bool false)/\w'=w:=Any.slices_Contains_int_empty Tryz.lays107 a c x w
def Tryz.laysNm215_ren:Go.Shelf.Ren:=⟨fun|15=>100|n=>n,fun|22=>33|3=>3|4=>4|n=>n,fun|n=>n⟩
theorem Tryz.laysNm215:Go.Proofs.Lays2.n15 prog Tryz.laysNm215_ren:={
  mixed:=by kernel_rfl
  f15:=func100.trans (congrArg some (by kernel_rfl))
  t3:=underlying3
  a3:=Tryz.isAgg3
  z3:=Tryz.sizeOf3
  v3:=Tryz.zeroValue3
  t4:=underlying4
  a4:=Tryz.isAgg4
  z4:=Tryz.sizeOf4
  v4:=Tryz.zeroValue4
  t22:=underlying33
  a22:=Tryz.isAgg33
  z22:=Tryz.sizeOf33
  v22:=Tryz.zeroValue33
  i3:=by kernel_rfl}
open Go.RowKit Go.Lib in
theorem Tryz.slices_Clone_int (b off n c:Nat)(zs:List Int)(w:World)(hz:n<=zs.length)(hbig:n*8<=140737488355328)(hc:∀j,j<zs.length->w.cell? ⟨b,off+j,none⟩=some (.int .i64 (zs.getD j 0))) :
  Calls prog 100 #[.slice (some ⟨b,off,none⟩) n c] w fun e w'=>∃v',e=.returned v'/\w'.ownsRow w.heap.size 3 1 v' n ((zs.take n).map (Value.int .i64))/\v'≠.slice none 0 0/\Below w.heap.size w w':=Any.slices_Clone_int Tryz.laysNm215 b off n c zs w hz hbig hc
open Go.RowKit Go.Lib in
theorem Tryz.slices_Clone_int_nil (n c:Nat)(w:World) :
  Calls prog 100 #[.slice none n c] w fun e w'=>e=.returned (.slice none 0 0)/\w'=w:=Any.slices_Clone_int_nil Tryz.laysNm215 n c w
open Go.RowKit Go.Lib in
theorem Tryz.slices_Clone_int_zero (a:Addr)(c:Nat)(w:World) :
  Calls prog 100 #[.slice (some a) 0 c] w fun e w'=>∃v',e=.returned v'/\w'.ownsRow w.heap.size 3 1 v' 0 []/\v'≠.slice none 0 0/\Below w.heap.size w w':=Any.slices_Clone_int_zero Tryz.laysNm215 a c w
def Tryz.laysSlH6_f72_ren:Go.Shelf.Ren:=⟨fun|6=>132|n=>n,fun|22=>33|23=>3|25=>94|3=>3|0=>0|4=>4|n=>n,fun|n=>n⟩
theorem Tryz.laysSlH6_f72:Go.Proofs.SlLaysH.n6 prog Tryz.laysSlH6_f72_ren:={
  mixed:=by kernel_rfl
  f6:=⟨Tryz.f132.name,by decide,func132.trans (congrArg some (by kernel_rfl))⟩
  t0:=underlying0
  a0:=Tryz.isAgg0
  z0:=Tryz.sizeOf0
  v0:=Tryz.zeroValue0
  t3:=underlying3
  a3:=Tryz.isAgg3
  z3:=Tryz.sizeOf3
  v3:=Tryz.zeroValue3
  t4:=underlying4
  a4:=Tryz.isAgg4
  z4:=Tryz.sizeOf4
  v4:=Tryz.zeroValue4
  t22:=underlying33
  a22:=Tryz.isAgg33
  z22:=Tryz.sizeOf33
  v22:=Tryz.zeroValue33
  a23:=Tryz.isAgg3
  z23:=Tryz.sizeOf3
  t25:=underlying94
  a25:=Tryz.isAgg94
  z25:=Tryz.sizeOf94
  v25:=Tryz.zeroValue94 }
def Tryz.laysSlH6_f95_ren:Go.Shelf.Ren:=⟨fun|6=>185|n=>n,fun|22=>25|23=>33|25=>188|3=>3|0=>0|4=>4|n=>n,fun|n=>n⟩
theorem Tryz.laysSlH6_f95:Go.Proofs.SlLaysH.n6 prog Tryz.laysSlH6_f95_ren:={
  mixed:=by kernel_rfl
  f6:=⟨Tryz.f185.name,by decide,func185.trans (congrArg some (by kernel_rfl))⟩
  t0:=underlying0
  a0:=Tryz.isAgg0
  z0:=Tryz.sizeOf0
  v0:=Tryz.zeroValue0
  t3:=underlying3
  a3:=Tryz.isAgg3
  z3:=Tryz.sizeOf3
  v3:=Tryz.zeroValue3
  t4:=underlying4
  a4:=Tryz.isAgg4
  z4:=Tryz.sizeOf4
  v4:=Tryz.zeroValue4
  t22:=underlying25
  a22:=Tryz.isAgg25
  z22:=Tryz.sizeOf25
  v22:=Tryz.zeroValue25
  a23:=Tryz.isAgg33
  z23:=Tryz.sizeOf33
  t25:=underlying188
  a25:=Tryz.isAgg188
  z25:=Tryz.sizeOf188
  v25:=Tryz.zeroValue188 }
def Tryz.laysSlH8_f40_ren:Go.Shelf.Ren:=⟨fun|8=>88|6=>132|n=>n,fun|22=>33|23=>3|25=>94|4=>4|3=>3|0=>0|n=>n,fun|n=>n⟩
theorem Tryz.laysSlH8_f40:Go.Proofs.SlLaysH.n8 prog Tryz.laysSlH8_f40_ren:={
  mixed:=by kernel_rfl
  f6:=⟨Tryz.f132.name,by decide,func132.trans (congrArg some (by kernel_rfl))⟩
  f8:=⟨Tryz.f88.name,by decide,func88.trans (congrArg some (by kernel_rfl))⟩
  t0:=underlying0
  a0:=Tryz.isAgg0
  z0:=Tryz.sizeOf0
  v0:=Tryz.zeroValue0
  t3:=underlying3
  a3:=Tryz.isAgg3
  z3:=Tryz.sizeOf3
  v3:=Tryz.zeroValue3
  t4:=underlying4
  a4:=Tryz.isAgg4
  z4:=Tryz.sizeOf4
  v4:=Tryz.zeroValue4
  t22:=underlying33
  a22:=Tryz.isAgg33
  z22:=Tryz.sizeOf33
  v22:=Tryz.zeroValue33
  a23:=Tryz.isAgg3
  z23:=Tryz.sizeOf3
  t25:=underlying94
  a25:=Tryz.isAgg94
  z25:=Tryz.sizeOf94
  v25:=Tryz.zeroValue94 }
open Go.RowKit Go.Lib in
theorem Tryz.slices_ContainsFunc_f40 {α:Type}[Inhabited α](enc:α->Value)(p:α->Bool)(g:Nat)(lb:Array Value)(eg:∀args w,(callFunc g args).run prog w=.ok (.enter g args) w)(b off n c:Nat)(zs:List α)(w:World)(hp:PredAt prog g lb enc p w)(hz:n<=zs.length)(hbig:n<=9223372036854775807)(hc:∀j,j<zs.length->w.cell? ⟨b,off+j,none⟩=some (enc zs[j]!)) :
  Calls prog 88 #[.slice (some ⟨b,off,none⟩) n c,.func (.func g) #[] lb] w fun e w'=>e=.returned (.bool ((zs.take n).any p))/\∃q,w'=w.drewN q:=AnyE.slices_ContainsFunc Tryz.laysSlH8_f40 enc p g lb eg b off n c zs w hp hz hbig hc
def Tryz.laysSlH8_f54_ren:Go.Shelf.Ren:=⟨fun|8=>161|6=>185|n=>n,fun|22=>25|23=>33|25=>188|4=>4|3=>3|0=>0|n=>n,fun|n=>n⟩
theorem Tryz.laysSlH8_f54:Go.Proofs.SlLaysH.n8 prog Tryz.laysSlH8_f54_ren:={
  mixed:=by kernel_rfl
  f6:=⟨Tryz.f185.name,by decide,func185.trans (congrArg some (by kernel_rfl))⟩
  f8:=⟨Tryz.f161.name,by decide,func161.trans (congrArg some (by kernel_rfl))⟩
  t0:=underlying0
  a0:=Tryz.isAgg0
  z0:=Tryz.sizeOf0
  v0:=Tryz.zeroValue0
  t3:=underlying3
  a3:=Tryz.isAgg3
  z3:=Tryz.sizeOf3
  v3:=Tryz.zeroValue3
  t4:=underlying4
  a4:=Tryz.isAgg4
  z4:=Tryz.sizeOf4
  v4:=Tryz.zeroValue4
  t22:=underlying25
  a22:=Tryz.isAgg25
  z22:=Tryz.sizeOf25
  v22:=Tryz.zeroValue25
  a23:=Tryz.isAgg33
  z23:=Tryz.sizeOf33
  t25:=underlying188
  a25:=Tryz.isAgg188
  z25:=Tryz.sizeOf188
  v25:=Tryz.zeroValue188 }
open Go.RowKit Go.Lib in
theorem Tryz.slices_ContainsFunc_f54 {α:Type}[Inhabited α](enc:α->Value)(p:α->Bool)(g:Nat)(lb:Array Value)(eg:∀args w,(callFunc g args).run prog w=.ok (.enter g args) w)(b off n c:Nat)(zs:List α)(w:World)(hp:PredAt prog g lb enc p w)(hz:n<=zs.length)(hbig:n<=9223372036854775807)(hc:∀j,j<zs.length->w.cell? ⟨b,off+j,none⟩=some (enc zs[j]!)) :
  Calls prog 161 #[.slice (some ⟨b,off,none⟩) n c,.func (.func g) #[] lb] w fun e w'=>e=.returned (.bool ((zs.take n).any p))/\∃q,w'=w.drewN q:=AnyE.slices_ContainsFunc Tryz.laysSlH8_f54 enc p g lb eg b off n c zs w hp hz hbig hc
open Go.RowKit Go.Lib in
theorem Tryz.slices_ContainsFunc_empty_f40 {α:Type}[Inhabited α](a:Option Addr)(c:Nat)(fv:Value)(w:World) :
  Calls prog 88 #[.slice a 0 c,fv] w fun e w'=>e=.returned (.bool false)/\w'=w:=AnyE.slices_ContainsFunc_empty Tryz.laysSlH8_f40 a c fv w
open Go.RowKit Go.Lib in
theorem Tryz.slices_ContainsFunc_empty_f54 {α:Type}[Inhabited α](a:Option Addr)(c:Nat)(fv:Value)(w:World) :
  Calls prog 161 #[.slice a 0 c,fv] w fun e w'=>e=.returned (.bool false)/\w'=w:=AnyE.slices_ContainsFunc_empty Tryz.laysSlH8_f54 a c fv w
end Go.Proofs

/- Parts. -/
import Derived.Test.YthfhamagopbgcaaGreatL00
import Derived.Shelf.Small.Wraps
import Derived.Shelf.Bits.Mul64
import Derived.Shelf.Slices.Turned
import Derived.Shelf.Slices.Clone
import Derived.Shelf.SlicesE.IndexFunc
import Derived.Test.YthfhamagopbgcaaGreatProg
set_option linter.unusedSimpArgs false
set_option linter.unusedVariables false
set_option maxRecDepth 100000
set_option maxHeartbeats 16000000
namespace Go.Proofs
open Go.Shelf
def Tryz.lays122_ren:Go.Shelf.Ren:=⟨fun|122=>88|215=>132|n=>n,fun|3=>3|4=>4|n=>n,fun|n=>n⟩
theorem Tryz.lays122:Go.Proofs.Lays.n122 Tryz.prog Tryz.lays122_ren:={
  mixed:=by kernel_rfl
  f122:=Tryz.func88.trans (congrArg some (by kernel_rfl))
  f215:=Tryz.func132.trans (congrArg some (by kernel_rfl))
  t3:=Tryz.underlying3
  a3:=Tryz.isAgg3
  z3:=Tryz.sizeOf3
  v3:=Tryz.zeroValue3
  t4:=Tryz.underlying4
  a4:=Tryz.isAgg4
  z4:=Tryz.sizeOf4
  v4:=Tryz.zeroValue4}
open Go.RowKit in
theorem Tryz.cmp_Compare_int (x y:Int)(w:World) :
  Calls Tryz.prog 88 #[.int .i64 x,.int .i64 y] w fun e w'=>e=.returned (.int .i64 (Lib.compareInt x y))/\w'=w:=Any.cmp_Compare_int Tryz.lays122 x y w
def Tryz.lays264_ren:Go.Shelf.Ren:=⟨fun|264=>227|n=>n,fun|53=>157|46=>93|n=>n,fun|n=>n⟩
theorem Tryz.lays264:Go.Proofs.Lays.n264 Tryz.prog Tryz.lays264_ren:={
  mixed:=by kernel_rfl
  f264:=Tryz.func227.trans (congrArg some (by kernel_rfl))
  t46:=Tryz.underlying93
  a46:=Tryz.isAgg93
  z46:=Tryz.sizeOf93
  v46:=Tryz.zeroValue93
  t53:=Tryz.underlying157
  a53:=Tryz.isAgg157
  z53:=Tryz.sizeOf157
  v53:=Tryz.zeroValue157}
open Go.RowKit Go.Lib in
theorem Tryz.bits_Mul64 (x y:Nat)(hx:x<18446744073709551616)(hy:y<18446744073709551616)(w:World) :
  Calls Tryz.prog 227 #[.int .u64 x,.int .u64 y] w fun e w'=>e=.returned (.tuple #[.int .u64 ((x*y / 18446744073709551616:Nat):Int),.int .u64 ((x*y%18446744073709551616:Nat):Int)])/\w'=w:=Any.bits_Mul64 Tryz.lays264 x y hx hy w
def Tryz.lays108_ren:Go.Shelf.Ren:=⟨fun|108=>61|n=>n,fun|28=>22|3=>3|0=>0|4=>4|n=>n,fun|n=>n⟩
theorem Tryz.lays108:Go.Proofs.Lays.n108 Tryz.prog Tryz.lays108_ren:={
  mixed:=by kernel_rfl
  f108:=Tryz.func61.trans (congrArg some (by kernel_rfl))
  t0:=Tryz.underlying0
  a0:=Tryz.isAgg0
  z0:=Tryz.sizeOf0
  v0:=Tryz.zeroValue0
  t3:=Tryz.underlying3
  a3:=Tryz.isAgg3
  z3:=Tryz.sizeOf3
  v3:=Tryz.zeroValue3
  t4:=Tryz.underlying4
  a4:=Tryz.isAgg4
  z4:=Tryz.sizeOf4
  v4:=Tryz.zeroValue4
  t28:=Tryz.underlying22
  a28:=Tryz.isAgg22
  z28:=Tryz.sizeOf22
  v28:=Tryz.zeroValue22}
open Go.Lib in
theorem Tryz.slices_Index_int (b off n c:Nat)(zs:List Int)(x:Int)(w:World)(hz:n<=zs.length)(hbig:n<=9223372036854775807)(hc:∀j,j<zs.length->w.cell? ⟨b,off+j,none⟩=some (.int .i64 (zs.getD j 0))) :
  Calls Tryz.prog 61 #[.slice (some ⟨b,off,none⟩) n c,.int .i64 x] w fun e w'=>e=.returned (.int .i64 (Lib.idxOf (zs.take n) x))/\w'=w:=Any.slices_Index_int Tryz.lays108 b off n c zs x w hz hbig hc
def Tryz.laysNm215_ren:Go.Shelf.Ren:=⟨fun|15=>85|n=>n,fun|22=>22|3=>3|4=>4|n=>n,fun|n=>n⟩
theorem wH:Go.Proofs.Lays2.n15 Tryz.prog Tryz.laysNm215_ren:={
  mixed:=by kernel_rfl
  f15:=Tryz.func85.trans (congrArg some (by kernel_rfl))
  t3:=Tryz.underlying3
  a3:=Tryz.isAgg3
  z3:=Tryz.sizeOf3
  v3:=Tryz.zeroValue3
  t4:=Tryz.underlying4
  a4:=Tryz.isAgg4
  z4:=Tryz.sizeOf4
  v4:=Tryz.zeroValue4
  t22:=Tryz.underlying22
  a22:=Tryz.isAgg22
  z22:=Tryz.sizeOf22
  v22:=Tryz.zeroValue22
  i3:=by kernel_rfl}
open Go.RowKit Go.Lib in
theorem Tryz.slices_Clone_int (b off n c:Nat)(zs:List Int)(w:World)(hz:n<=zs.length)(hbig:n*8<=140737488355328)(hc:∀j,j<zs.length->w.cell? ⟨b,off+j,none⟩=some (.int .i64 (zs.getD j 0))) :
  Calls Tryz.prog 85 #[.slice (some ⟨b,off,none⟩) n c] w fun e w'=>∃v',e=.returned v'/\w'.ownsRow w.heap.size 3 1 v' n ((zs.take n).map (Value.int .i64))/\v'≠.slice none 0 0/\Below w.heap.size w w':=Any.slices_Clone_int wH b off n c zs w hz hbig hc
def Tryz.laysSlH8_f40_ren:Go.Shelf.Ren:=⟨fun|8=>40|6=>72|n=>n,fun|22=>22|23=>3|25=>73|4=>4|3=>3|0=>0|n=>n,fun|n=>n⟩
theorem wI:Go.Proofs.SlLaysH.n8 Tryz.prog Tryz.laysSlH8_f40_ren:={
  mixed:=by kernel_rfl
  f6:=⟨Tryz.f72.name,by decide,Tryz.func72.trans (congrArg some (by kernel_rfl))⟩
  f8:=⟨Tryz.f40.name,by decide,Tryz.func40.trans (congrArg some (by kernel_rfl))⟩
  t0:=Tryz.underlying0
  a0:=Tryz.isAgg0
  z0:=Tryz.sizeOf0
  v0:=Tryz.zeroValue0
  t3:=Tryz.underlying3
  a3:=Tryz.isAgg3
  z3:=Tryz.sizeOf3
  v3:=Tryz.zeroValue3
  t4:=Tryz.underlying4
  a4:=Tryz.isAgg4
  z4:=Tryz.sizeOf4
  v4:=Tryz.zeroValue4
  t22:=Tryz.underlying22
  a22:=Tryz.isAgg22
  z22:=Tryz.sizeOf22
  v22:=Tryz.zeroValue22
  a23:=Tryz.isAgg3
  z23:=Tryz.sizeOf3
  t25:=Tryz.underlying73
  a25:=Tryz.isAgg73
  z25:=Tryz.sizeOf73
  v25:=Tryz.zeroValue73}
open Go.RowKit Go.Lib in
theorem wJ {α:Type}[Inhabited α](enc:α->Value)(p:α->Bool)(g:Nat)(lb:Array Value)(eg:∀args w,(callFunc g args).run Tryz.prog w=.ok (.enter g args) w)(b off n c:Nat)(zs:List α)(w:World)(hp:PredAt Tryz.prog g lb enc p w)(hz:n<=zs.length)(hbig:n<=9223372036854775807)(hc:∀j,j<zs.length->w.cell? ⟨b,off+j,none⟩=some (enc zs[j]!)) :
  Calls Tryz.prog 40 #[.slice (some ⟨b,off,none⟩) n c,.func (.func g) #[] lb] w fun e w'=>e=.returned (.bool ((zs.take n).any p))/\∃q,w'=w.drewN q:=AnyE.slices_ContainsFunc wI enc p g lb eg b off n c zs w hp hz hbig hc
open Go.RowKit Go.Lib in
theorem wK {α:Type}[Inhabited α](a:Option Addr)(c:Nat)(fv:Value)(w:World) :
  Calls Tryz.prog 40 #[.slice a 0 c,fv] w fun e w'=>e=.returned (.bool false)/\w'=w:=AnyE.slices_ContainsFunc_empty wI a c fv w
end Go.Proofs

/- Parts. -/
import Derived.Test.YthfjdhanbegaoaaGreatDoorT00
import Derived.Shelf.Strings.Builder1
import Derived.Shelf.Strings.Builder2
import Derived.Shelf.Strings.OnBuilder
import Derived.Shelf.Small.Wraps
import Derived.Shelf.Strconv.Itoa0
import Derived.Shelf.Strconv.Itoa1
import Derived.Shelf.LaysM
import Derived.Shelf.Strconv.Itoa2
import Derived.Shelf.Strconv.Itoa3
import Derived.Ground.MpProg
import Derived.Shelf.Pu.ParseUintPublic10
import Derived.Shelf.Pu.ErrVarParseUint
import Derived.Shelf.Strings.Search1
import Derived.Shelf.Strings.Search2
import Derived.Shelf.Strings.Search3
import Derived.Shelf.Strings.Cut
import Derived.Shelf.Strings.Count
import Derived.Shelf.Strings.Shaped
import Derived.Shelf.Strings.Prefix
import Derived.Shelf.Strings.Split
import Derived.Shelf.Slices.Turned
import Derived.Test.YthfjdhanbegaoaaGreatDoorProg
set_option linter.unusedSimpArgs false
set_option linter.unusedVariables false
set_option maxRecDepth 100000
set_option maxHeartbeats 16000000
open Go.Proofs.Tryz
namespace Go.Proofs
open Go.Shelf
def Tryz.lays156_ren:Go.Shelf.Ren:=⟨fun|156=>56|165=>97|166=>98|169=>99|240=>126|241=>127|276=>156|277=>157|n=>n,fun|31=>58|9=>9|3=>3|4=>4|0=>0|20=>20|72=>123|76=>127|70=>121|37=>36|75=>126|127=>155|164=>175|5=>5|80=>51|n=>n,fun|n=>n⟩
theorem Tryz.lays156:Go.Proofs.Lays.n156 prog Tryz.lays156_ren:={
  mixed:=by kernel_rfl
  f156:=func56.trans (congrArg some (by kernel_rfl))
  f165:=func97.trans (congrArg some (by kernel_rfl))
  f166:=func98.trans (congrArg some (by kernel_rfl))
  f169:=func99.trans (congrArg some (by kernel_rfl))
  f240:=func126.trans (congrArg some (by kernel_rfl))
  f241:=func127.trans (congrArg some (by kernel_rfl))
  f276:=func156.trans (congrArg some (by kernel_rfl))
  f277:=func157.trans (congrArg some (by kernel_rfl))
  t0:=underlying0
  a0:=Tryz.isAgg0
  z0:=Tryz.sizeOf0
  v0:=Tryz.zeroValue0
  t3:=underlying3
  a3:=Tryz.isAgg3
  z3:=Tryz.sizeOf3
  v3:=Tryz.zeroValue3
  t4:=underlying4
  a4:=Tryz.isAgg4
  z4:=Tryz.sizeOf4
  v4:=Tryz.zeroValue4
  t9:=underlying9
  a9:=Tryz.isAgg9
  z9:=Tryz.sizeOf9
  v9:=Tryz.zeroValue9
  t20:=underlying20
  a20:=Tryz.isAgg20
  z20:=Tryz.sizeOf20
  v20:=Tryz.zeroValue20
  t31:=underlying58
  a31:=Tryz.isAgg58
  z31:=Tryz.sizeOf58
  v31:=Tryz.zeroValue58
  t37:=underlying36
  a37:=Tryz.isAgg36
  z37:=Tryz.sizeOf36
  v37:=Tryz.zeroValue36
  t70:=underlying121
  a70:=Tryz.isAgg121
  z70:=Tryz.sizeOf121
  v70:=Tryz.zeroValue121
  t72:=underlying123
  a72:=Tryz.isAgg123
  z72:=Tryz.sizeOf123
  v72:=Tryz.zeroValue123
  t75:=underlying126
  a75:=Tryz.isAgg126
  z75:=Tryz.sizeOf126
  v75:=Tryz.zeroValue126
  t76:=underlying127
  a76:=Tryz.isAgg127
  z76:=Tryz.sizeOf127
  v76:=Tryz.zeroValue127
  t127:=underlying155
  a127:=Tryz.isAgg155
  z127:=Tryz.sizeOf155
  v127:=Tryz.zeroValue155
  t164:=underlying175
  a164:=Tryz.isAgg175
  z164:=Tryz.sizeOf175
  v164:=Tryz.zeroValue175 }
theorem Tryz.Builder_Extra_156:Builder.Extra prog Tryz.lays156_ren:={
  sizeBuilder:=by kernel_rfl
  liesBuilder:=by kernel_rfl
  t5:=underlying5
  a5:=Tryz.isAgg5
  z5:=Tryz.sizeOf5
  v5:=Tryz.zeroValue5
  infoByte:=by kernel_rfl
  cellsByte:=by kernel_rfl
  sizeByte:=by kernel_rfl
  neB5:=by decide}
open Go.RowKit in
theorem Tryz.strings_Join_none (a:Option Addr)(c:Nat)(sep:ByteArray)(w:World) :
  Calls prog 56 #[.slice a 0 c,.string sep] w fun e w'=>e=.returned (.string ⟨#[]⟩)/\w'=w:=Any.strings_Join_none Tryz.lays156 Tryz.Builder_Extra_156 a c sep w
open Go.RowKit in
theorem Tryz.strings_Join (bk o c:Nat)(xs:List ByteArray)(sep:ByteArray)(w:World)(hcells:∀(j:Nat) x,xs[j]?=some x->w.cell? ⟨bk,o+j,none⟩=some (.string x))(hbk:bk<w.heap.size)(hN:xs.length<=140737488355328)(hcap:xs.length<=c)(hlen:(Lib.join (xs.map (·.data.toList)) sep.data.toList).length<=140737488355328) :
  Calls prog 56 #[.slice (some ⟨bk,o,none⟩) xs.length c,.string sep] w fun e w'=>e=.returned (.string ⟨(Lib.join (xs.map (·.data.toList)) sep.data.toList).toArray⟩)/\Below w.heap.size w w':=Any.strings_Join Tryz.lays156 Tryz.Builder_Extra_156 bk o c xs sep w hcells hbk hN hcap hlen
def Tryz.lays104_ren:Go.Shelf.Ren:=⟨fun|104=>32|211=>63|207=>107|n=>n,fun|9=>9|4=>4|24=>54|3=>3|n=>n,fun|n=>n⟩
theorem Tryz.lays104:Go.Proofs.Lays.n104 prog Tryz.lays104_ren:={
  mixed:=by kernel_rfl
  f104:=func32.trans (congrArg some (by kernel_rfl))
  f207:=func107.trans (congrArg some (by kernel_rfl))
  f211:=func63.trans (congrArg some (by kernel_rfl))
  t3:=underlying3
  a3:=Tryz.isAgg3
  z3:=Tryz.sizeOf3
  v3:=Tryz.zeroValue3
  t4:=underlying4
  a4:=Tryz.isAgg4
  z4:=Tryz.sizeOf4
  v4:=Tryz.zeroValue4
  t9:=underlying9
  a9:=Tryz.isAgg9
  z9:=Tryz.sizeOf9
  v9:=Tryz.zeroValue9
  t24:=underlying54
  a24:=Tryz.isAgg54
  z24:=Tryz.sizeOf54
  v24:=Tryz.zeroValue54 }
open Go.RowKit in
theorem Tryz.strings_CutSuffix (s p:ByteArray)(w:World)(hs:s.size<=9223372036854775807) :
  Calls prog 32 #[.string s,.string p] w fun e w'=>e=.returned (.tuple #[.string ⟨(Lib.trimSuffix s.data.toList p.data.toList).toArray⟩,.bool (Lib.hasSuffix s.data.toList p.data.toList)])/\w'=w:=Any.strings_CutSuffix Tryz.lays104 s p w hs
def Tryz.lays283_ren:Go.Shelf.Ren:=⟨fun|283=>143|n=>n,fun|3=>3|9=>9|4=>4|n=>n,fun|n=>n⟩
theorem Tryz.lays283:Go.Proofs.Lays.n283 prog Tryz.lays283_ren:={
  mixed:=by kernel_rfl
  f283:=func143.trans (congrArg some (by kernel_rfl))
  t3:=underlying3
  a3:=Tryz.isAgg3
  z3:=Tryz.sizeOf3
  v3:=Tryz.zeroValue3
  t4:=underlying4
  a4:=Tryz.isAgg4
  z4:=Tryz.sizeOf4
  v4:=Tryz.zeroValue4
  t9:=underlying9
  a9:=Tryz.isAgg9
  z9:=Tryz.sizeOf9
  v9:=Tryz.zeroValue9 }
open Go.Lib in
theorem Tryz.internal_strconv_small (i:Nat)(h:i<100)(w:World) :
  Calls prog 143 #[.int .i64 i] w fun e w'=>e=.returned (.string ⟨(Lib.decDigits i).toArray⟩)/\w'=w:=Any.internal_strconv_small Tryz.lays283 i h w
def Tryz.laysM284_ren:Go.Shelf.Ren:=⟨fun|284=>144|129=>167|317=>166|318=>168|n=>n,fun|53=>104|3=>3|212=>180|0=>0|4=>4|46=>35|5=>5|9=>9|n=>n,fun|17=>1|n=>n⟩
theorem Tryz.laysM284:Go.Proofs.LaysM.n284 prog Tryz.laysM284_ren:={
  mixed:=by kernel_rfl
  f129:=func167.trans (congrArg some (by kernel_rfl))
  f284:=func144.trans (congrArg some (by kernel_rfl))
  f317:=func166.trans (congrArg some (by kernel_rfl))
  f318:=func168.trans (congrArg some (by kernel_rfl))
  t0:=underlying0
  a0:=Tryz.isAgg0
  z0:=Tryz.sizeOf0
  v0:=Tryz.zeroValue0
  t3:=underlying3
  a3:=Tryz.isAgg3
  z3:=Tryz.sizeOf3
  v3:=Tryz.zeroValue3
  t4:=underlying4
  a4:=Tryz.isAgg4
  z4:=Tryz.sizeOf4
  v4:=Tryz.zeroValue4
  t5:=underlying5
  a5:=Tryz.isAgg5
  z5:=Tryz.sizeOf5
  v5:=Tryz.zeroValue5
  t9:=underlying9
  a9:=Tryz.isAgg9
  z9:=Tryz.sizeOf9
  v9:=Tryz.zeroValue9
  t46:=underlying35
  a46:=Tryz.isAgg35
  z46:=Tryz.sizeOf35
  v46:=Tryz.zeroValue35
  t53:=underlying104
  a53:=Tryz.isAgg104
  z53:=Tryz.sizeOf104
  v53:=Tryz.zeroValue104
  t212:=underlying180
  a212:=Tryz.isAgg180
  z212:=Tryz.sizeOf180
  v212:=Tryz.zeroValue180
  g17:=by kernel_rfl
  i0:=by kernel_rfl
  i3:=by kernel_rfl
  i4:=by kernel_rfl
  i5:=by kernel_rfl
  i9:=by kernel_rfl
  i46:=by kernel_rfl
  i53:=by kernel_rfl
  i212:=by kernel_rfl
  m17:=by kernel_rfl}
open Go.Lib in
theorem Tryz.internal_strconv_numDigits (u:Nat)(h1:1<=u)(h2:u<18446744073709551616)(w:World)(htab:Lib.TabIs prog w "internal/strconv.uint64pow10" .u64 Lib.pow10Tab) :
  Calls prog 144 #[.int .u64 u] w fun e w'=>e=.returned (.int .i64 (Lib.nDigits u))/\w'=w:=Any.internal_strconv_numDigits Tryz.laysM284 u h1 h2 w htab
def Tryz.lays285_ren:Go.Shelf.Ren:=⟨fun|285=>145|n=>n,fun|37=>36|53=>104|3=>3|4=>4|51=>48|9=>9|5=>5|0=>0|n=>n,fun|n=>n⟩
theorem Tryz.lays285:Go.Proofs.Lays.n285 prog Tryz.lays285_ren:={
  mixed:=by kernel_rfl
  f285:=func145.trans (congrArg some (by kernel_rfl))
  t0:=underlying0
  a0:=Tryz.isAgg0
  z0:=Tryz.sizeOf0
  v0:=Tryz.zeroValue0
  t3:=underlying3
  a3:=Tryz.isAgg3
  z3:=Tryz.sizeOf3
  v3:=Tryz.zeroValue3
  t4:=underlying4
  a4:=Tryz.isAgg4
  z4:=Tryz.sizeOf4
  v4:=Tryz.zeroValue4
  t5:=underlying5
  a5:=Tryz.isAgg5
  z5:=Tryz.sizeOf5
  v5:=Tryz.zeroValue5
  t9:=underlying9
  a9:=Tryz.isAgg9
  z9:=Tryz.sizeOf9
  v9:=Tryz.zeroValue9
  t37:=underlying36
  a37:=Tryz.isAgg36
  z37:=Tryz.sizeOf36
  v37:=Tryz.zeroValue36
  t51:=underlying48
  a51:=Tryz.isAgg48
  z51:=Tryz.sizeOf48
  v51:=Tryz.zeroValue48
  t53:=underlying104
  a53:=Tryz.isAgg104
  z53:=Tryz.sizeOf104
  v53:=Tryz.zeroValue104 }
open Go.RowKit Go.Sort Go.Lib in
theorem Tryz.internal_strconv_formatBase10 (blk off cap:Nat)(u:Nat)(d:Array UInt8)(w:World)(hH:Holds (fun(b:UInt8)=>Value.int .u8 (b.toNat:Int)) w blk off d)(hu:u<10 ^ d.size)(hu64:u<18446744073709551616)(hsz:d.size<4611686018427387904) :
  Calls prog 145 #[.slice (some ⟨blk,off,none⟩) d.size cap,.int .u64 u] w fun e w' =>
   e=.returned (.tuple #[])/\∃(n v':Nat)(dk:Array UInt8),w'=(putRow (fun(b:UInt8)=>Value.int .u8 (b.toNat:Int)) w blk off dk).drewN n/\FmtInv d.size u 0 v' dk:=Any.internal_strconv_formatBase10 Tryz.lays285 blk off cap u d w hH hu hu64 hsz
def Tryz.laysM171_ren:Go.Shelf.Ren:=⟨fun|171=>73|243=>114|246=>142|283=>143|284=>144|285=>145|286=>146|129=>167|317=>166|318=>168|319=>169|320=>170|337=>181|338=>182|n=>n,fun|3=>3|9=>9|2=>2|4=>4|171=>167|0=>0|53=>104|37=>36|5=>5|173=>170|212=>180|51=>48|20=>20|213=>181|46=>35|232=>200|233=>201|n=>n,fun|17=>1|18=>6|19=>7|n=>n⟩
theorem Tryz.laysM171:Go.Proofs.LaysM.n171 prog Tryz.laysM171_ren:={
  mixed:=by kernel_rfl
  f129:=func167.trans (congrArg some (by kernel_rfl))
  f171:=func73.trans (congrArg some (by kernel_rfl))
  f243:=func114.trans (congrArg some (by kernel_rfl))
  f246:=func142.trans (congrArg some (by kernel_rfl))
  f283:=func143.trans (congrArg some (by kernel_rfl))
  f284:=func144.trans (congrArg some (by kernel_rfl))
  f285:=func145.trans (congrArg some (by kernel_rfl))
  f286:=func146.trans (congrArg some (by kernel_rfl))
  f317:=func166.trans (congrArg some (by kernel_rfl))
  f318:=func168.trans (congrArg some (by kernel_rfl))
  f319:=func169.trans (congrArg some (by kernel_rfl))
  f320:=func170.trans (congrArg some (by kernel_rfl))
  f337:=func181.trans (congrArg some (by kernel_rfl))
  f338:=func182.trans (congrArg some (by kernel_rfl))
  t0:=underlying0
  a0:=Tryz.isAgg0
  z0:=Tryz.sizeOf0
  v0:=Tryz.zeroValue0
  t2:=underlying2
  a2:=Tryz.isAgg2
  z2:=Tryz.sizeOf2
  v2:=Tryz.zeroValue2
  t3:=underlying3
  a3:=Tryz.isAgg3
  z3:=Tryz.sizeOf3
  v3:=Tryz.zeroValue3
  t4:=underlying4
  a4:=Tryz.isAgg4
  z4:=Tryz.sizeOf4
  v4:=Tryz.zeroValue4
  t5:=underlying5
  a5:=Tryz.isAgg5
  z5:=Tryz.sizeOf5
  v5:=Tryz.zeroValue5
  t9:=underlying9
  a9:=Tryz.isAgg9
  z9:=Tryz.sizeOf9
  v9:=Tryz.zeroValue9
  t20:=underlying20
  a20:=Tryz.isAgg20
  z20:=Tryz.sizeOf20
  v20:=Tryz.zeroValue20
  t37:=underlying36
  a37:=Tryz.isAgg36
  z37:=Tryz.sizeOf36
  v37:=Tryz.zeroValue36
  t46:=underlying35
  a46:=Tryz.isAgg35
  z46:=Tryz.sizeOf35
  v46:=Tryz.zeroValue35
  t51:=underlying48
  a51:=Tryz.isAgg48
  z51:=Tryz.sizeOf48
  v51:=Tryz.zeroValue48
  t53:=underlying104
  a53:=Tryz.isAgg104
  z53:=Tryz.sizeOf104
  v53:=Tryz.zeroValue104
  t171:=underlying167
  a171:=Tryz.isAgg167
  z171:=Tryz.sizeOf167
  v171:=Tryz.zeroValue167
  t173:=underlying170
  a173:=Tryz.isAgg170
  z173:=Tryz.sizeOf170
  v173:=Tryz.zeroValue170
  t212:=underlying180
  a212:=Tryz.isAgg180
  z212:=Tryz.sizeOf180
  v212:=Tryz.zeroValue180
  t213:=underlying181
  a213:=Tryz.isAgg181
  z213:=Tryz.sizeOf181
  t232:=underlying200
  a232:=Tryz.isAgg200
  z232:=Tryz.sizeOf200
  v232:=Tryz.zeroValue200
  t233:=underlying201
  a233:=Tryz.isAgg201
  z233:=Tryz.sizeOf201
  v233:=Tryz.zeroValue201
  g17:=by kernel_rfl
  g18:=by kernel_rfl
  g19:=by kernel_rfl
  i0:=by kernel_rfl
  i2:=by kernel_rfl
  i3:=by kernel_rfl
  i4:=by kernel_rfl
  i5:=by kernel_rfl
  i9:=by kernel_rfl
  i20:=by kernel_rfl
  i37:=by kernel_rfl
  i46:=by kernel_rfl
  i51:=by kernel_rfl
  i53:=by kernel_rfl
  i171:=by kernel_rfl
  i173:=by kernel_rfl
  i212:=by kernel_rfl
  i232:=by kernel_rfl
  i233:=by kernel_rfl
  m17:=by kernel_rfl
  m18:=by kernel_rfl
  m19:=by kernel_rfl}
open Go.RowKit Go.Sort Go.Lib in
theorem Tryz.strconv_Itoa (n:Int)(h0:-9223372036854775808<=n)(h1:n<=9223372036854775807)(w:World)(htab:Lib.TabIs prog w "internal/strconv.uint64pow10" .u64 Lib.pow10Tab) :
  Calls prog 73 #[.int .i64 n] w fun e w'=>e=.returned (.string ⟨(Lib.itoa n).toArray⟩)/\∃k os,w'=grow (w.drewN k) os:=Any.strconv_Itoa Tryz.laysM171 n h0 h1 w htab
def Tryz.laysPu14_ren:Go.Shelf.Ren:=⟨fun|14=>135|16=>159|17=>160|19=>173|20=>174|21=>175|22=>176|23=>177|24=>178|25=>183|27=>73|26=>184|28=>114|29=>142|30=>143|31=>144|32=>145|33=>146|35=>167|34=>166|36=>168|37=>169|38=>170|39=>181|40=>182|n=>n,fun|9=>9|3=>3|22=>104|24=>126|25=>161|4=>4|34=>184|5=>5|36=>35|37=>36|0=>0|39=>186|21=>21|44=>198|47=>155|50=>204|48=>202|2=>2|52=>167|55=>170|59=>180|60=>48|20=>20|61=>181|65=>200|66=>201|67=>51|n=>n,fun|0=>4|1=>5|2=>1|3=>6|4=>7|n=>n⟩
theorem Tryz.laysPu14:Go.Proofs.LaysPu.n14 prog Tryz.laysPu14_ren:={
  mixed:=by kernel_rfl
  f14:=func135.trans (congrArg some (by kernel_rfl))
  f16:=func159.trans (congrArg some (by kernel_rfl))
  f17:=func160.trans (congrArg some (by kernel_rfl))
  f19:=func173.trans (congrArg some (by kernel_rfl))
  f20:=func174.trans (congrArg some (by kernel_rfl))
  f21:=func175.trans (congrArg some (by kernel_rfl))
  f22:=func176.trans (congrArg some (by kernel_rfl))
  f23:=func177.trans (congrArg some (by kernel_rfl))
  f24:=func178.trans (congrArg some (by kernel_rfl))
  f25:=func183.trans (congrArg some (by kernel_rfl))
  f26:=func184.trans (congrArg some (by kernel_rfl))
  f27:=func73.trans (congrArg some (by kernel_rfl))
  f28:=func114.trans (congrArg some (by kernel_rfl))
  f29:=func142.trans (congrArg some (by kernel_rfl))
  f30:=func143.trans (congrArg some (by kernel_rfl))
  f31:=func144.trans (congrArg some (by kernel_rfl))
  f32:=func145.trans (congrArg some (by kernel_rfl))
  f33:=func146.trans (congrArg some (by kernel_rfl))
  f34:=func166.trans (congrArg some (by kernel_rfl))
  f35:=func167.trans (congrArg some (by kernel_rfl))
  f36:=func168.trans (congrArg some (by kernel_rfl))
  f37:=func169.trans (congrArg some (by kernel_rfl))
  f38:=func170.trans (congrArg some (by kernel_rfl))
  f39:=func181.trans (congrArg some (by kernel_rfl))
  f40:=func182.trans (congrArg some (by kernel_rfl))
  t0:=underlying0
  a0:=Tryz.isAgg0
  z0:=Tryz.sizeOf0
  v0:=Tryz.zeroValue0
  i0:=by kernel_rfl
  t2:=underlying2
  a2:=Tryz.isAgg2
  z2:=Tryz.sizeOf2
  v2:=Tryz.zeroValue2
  i2:=by kernel_rfl
  t3:=underlying3
  a3:=Tryz.isAgg3
  z3:=Tryz.sizeOf3
  v3:=Tryz.zeroValue3
  i3:=by kernel_rfl
  t4:=underlying4
  a4:=Tryz.isAgg4
  z4:=Tryz.sizeOf4
  v4:=Tryz.zeroValue4
  i4:=by kernel_rfl
  t5:=underlying5
  a5:=Tryz.isAgg5
  z5:=Tryz.sizeOf5
  v5:=Tryz.zeroValue5
  i5:=by kernel_rfl
  t9:=underlying9
  a9:=Tryz.isAgg9
  z9:=Tryz.sizeOf9
  v9:=Tryz.zeroValue9
  i9:=by kernel_rfl
  t20:=underlying20
  a20:=Tryz.isAgg20
  z20:=Tryz.sizeOf20
  v20:=Tryz.zeroValue20
  i20:=by kernel_rfl
  t21:=underlying21
  a21:=Tryz.isAgg21
  z21:=Tryz.sizeOf21
  v21:=Tryz.zeroValue21
  i21:=by kernel_rfl
  t22:=underlying104
  a22:=Tryz.isAgg104
  z22:=Tryz.sizeOf104
  v22:=Tryz.zeroValue104
  i22:=by kernel_rfl
  t24:=underlying126
  a24:=Tryz.isAgg126
  z24:=Tryz.sizeOf126
  v24:=Tryz.zeroValue126
  i24:=by kernel_rfl
  t25:=underlying161
  a25:=Tryz.isAgg161
  z25:=Tryz.sizeOf161
  v25:=Tryz.zeroValue161
  i25:=by kernel_rfl
  t34:=underlying184
  a34:=Tryz.isAgg184
  z34:=Tryz.sizeOf184
  v34:=Tryz.zeroValue184
  i34:=by kernel_rfl
  c34:=by kernel_rfl
  t36:=underlying35
  a36:=Tryz.isAgg35
  z36:=Tryz.sizeOf35
  v36:=Tryz.zeroValue35
  i36:=by kernel_rfl
  t37:=underlying36
  a37:=Tryz.isAgg36
  z37:=Tryz.sizeOf36
  v37:=Tryz.zeroValue36
  i37:=by kernel_rfl
  t39:=underlying186
  a39:=Tryz.isAgg186
  z39:=Tryz.sizeOf186
  v39:=Tryz.zeroValue186
  i39:=by kernel_rfl
  t44:=underlying198
  a44:=Tryz.isAgg198
  z44:=Tryz.sizeOf198
  v44:=Tryz.zeroValue198
  i44:=by kernel_rfl
  t47:=underlying155
  a47:=Tryz.isAgg155
  z47:=Tryz.sizeOf155
  v47:=Tryz.zeroValue155
  i47:=by kernel_rfl
  t48:=underlying202
  a48:=Tryz.isAgg202
  z48:=Tryz.sizeOf202
  v48:=Tryz.zeroValue202
  i48:=by kernel_rfl
  t50:=underlying204
  a50:=Tryz.isAgg204
  z50:=Tryz.sizeOf204
  v50:=Tryz.zeroValue204
  i50:=by kernel_rfl
  t52:=underlying167
  a52:=Tryz.isAgg167
  z52:=Tryz.sizeOf167
  v52:=Tryz.zeroValue167
  i52:=by kernel_rfl
  t55:=underlying170
  a55:=Tryz.isAgg170
  z55:=Tryz.sizeOf170
  v55:=Tryz.zeroValue170
  i55:=by kernel_rfl
  t59:=underlying180
  a59:=Tryz.isAgg180
  z59:=Tryz.sizeOf180
  v59:=Tryz.zeroValue180
  i59:=by kernel_rfl
  t60:=underlying48
  a60:=Tryz.isAgg48
  z60:=Tryz.sizeOf48
  v60:=Tryz.zeroValue48
  i60:=by kernel_rfl
  t61:=underlying181
  a61:=Tryz.isAgg181
  z61:=Tryz.sizeOf181
  t65:=underlying200
  a65:=Tryz.isAgg200
  z65:=Tryz.sizeOf200
  v65:=Tryz.zeroValue200
  i65:=by kernel_rfl
  t66:=underlying201
  a66:=Tryz.isAgg201
  z66:=Tryz.sizeOf201
  v66:=Tryz.zeroValue201
  i66:=by kernel_rfl
  t67:=underlying51
  a67:=Tryz.isAgg51
  z67:=Tryz.sizeOf51
  v67:=Tryz.zeroValue51
  i67:=by kernel_rfl
  g0:=by kernel_rfl
  m0:=by kernel_rfl
  g1:=by kernel_rfl
  m1:=by kernel_rfl
  g2:=by kernel_rfl
  m2:=by kernel_rfl
  g3:=by kernel_rfl
  m3:=by kernel_rfl
  g4:=by kernel_rfl
  m4:=by kernel_rfl}
open Go.RowKit in
theorem Tryz.strconv_ParseUint_10_at32_ok (s:ByteArray)(hmax:s.size<=9223372036854775806)(u:Nat)(h:Lib.parseUintB 32 s.data.toList=.ok u)(w:World) :
  Calls prog 135 #[.string s,.int .i64 10,.int .i64 32] w fun e w'=>e=.returned (.tuple #[.int .u64 u,.nilIface])/\(w'=w\/w'=Lib.bytesWorld w 5 s):=Any.strconv_ParseUint_10_at32_ok Tryz.laysPu14 s hmax u h w
open Go.RowKit in
theorem Tryz.strconv_ParseUint_10_at32_syntax_var (s:ByteArray)(hlim:s.size<=281474976710656)(h:Lib.parseUintB 32 s.data.toList=.«syntax»)(tp:TypeId)(p:Value)(w:World)(hvar:w.var? prog "strconv.ErrSyntax" = some #[.iface tp p]) :
  Calls prog 135 #[.string s,.int .i64 10,.int .i64 32] w fun e w'=>∃N,e=.returned (.tuple #[.int .u64 0,.iface 186 (.pointer (some ⟨N,0,none⟩))])/\w.heap.size<=N/\w'.heap[N]?=some (.cells #[.string ⟨#[80,97,114,115,101,85,105,110,116]⟩,.string s,.iface tp p] 198 (0,0))/\Below w.heap.size w w':=Any.strconv_ParseUint_10_at32_syntax_var Tryz.laysPu14 s hlim h tp p w hvar
open Go.RowKit in
theorem Tryz.strconv_ParseUint_10_at32_range_var (s:ByteArray)(hlim:s.size<=281474976710656)(h:Lib.parseUintB 32 s.data.toList=.range)(tp:TypeId)(p:Value)(w:World)(hvar:w.var? prog "strconv.ErrRange" = some #[.iface tp p]) :
  Calls prog 135 #[.string s,.int .i64 10,.int .i64 32] w fun e w'=>∃N,e=.returned (.tuple #[.int .u64 4294967295,.iface 186 (.pointer (some ⟨N,0,none⟩))])/\w.heap.size<=N/\w'.heap[N]?=some (.cells #[.string ⟨#[80,97,114,115,101,85,105,110,116]⟩,.string s,.iface tp p] 198 (0,0))/\Below w.heap.size w w':=Any.strconv_ParseUint_10_at32_range_var Tryz.laysPu14 s hlim h tp p w hvar
def Tryz.lays145_ren:Go.Shelf.Ren:=⟨fun|145=>109|220=>136|219=>141|217=>162|225=>163|224=>164|267=>165|266=>179|314=>180|n=>n,fun|9=>9|4=>4|59=>139|3=>3|5=>5|46=>35|146=>193|51=>48|n=>n,fun|1=>0|n=>n⟩
theorem Tryz.lays145:Go.Proofs.Lays.n145 prog Tryz.lays145_ren:={
  mixed:=by kernel_rfl
  f145:=func109.trans (congrArg some (by kernel_rfl))
  f217:=func162.trans (congrArg some (by kernel_rfl))
  f219:=func141.trans (congrArg some (by kernel_rfl))
  f220:=func136.trans (congrArg some (by kernel_rfl))
  f224:=func164.trans (congrArg some (by kernel_rfl))
  f225:=func163.trans (congrArg some (by kernel_rfl))
  f266:=func179.trans (congrArg some (by kernel_rfl))
  f267:=func165.trans (congrArg some (by kernel_rfl))
  f314:=func180.trans (congrArg some (by kernel_rfl))
  t3:=underlying3
  a3:=Tryz.isAgg3
  z3:=Tryz.sizeOf3
  v3:=Tryz.zeroValue3
  t4:=underlying4
  a4:=Tryz.isAgg4
  z4:=Tryz.sizeOf4
  v4:=Tryz.zeroValue4
  t5:=underlying5
  a5:=Tryz.isAgg5
  z5:=Tryz.sizeOf5
  v5:=Tryz.zeroValue5
  t9:=underlying9
  a9:=Tryz.isAgg9
  z9:=Tryz.sizeOf9
  v9:=Tryz.zeroValue9
  t46:=underlying35
  a46:=Tryz.isAgg35
  z46:=Tryz.sizeOf35
  v46:=Tryz.zeroValue35
  t51:=underlying48
  a51:=Tryz.isAgg48
  z51:=Tryz.sizeOf48
  v51:=Tryz.zeroValue48
  t59:=underlying139
  a59:=Tryz.isAgg139
  z59:=Tryz.sizeOf139
  v59:=Tryz.zeroValue139
  t146:=underlying193
  a146:=Tryz.isAgg193
  z146:=Tryz.sizeOf193
  v146:=Tryz.zeroValue193
  g1:=by kernel_rfl}
open Go.RowKit Go.Lib in
theorem Tryz.strings_Cut (s sep:ByteArray)(m:Int)(w:World)(hs:s.size<4294967281)(hm:w.cell? ⟨0,0,none⟩=some (.int .i64 m)) :
  Calls prog 109 #[.string s,.string sep] w fun e w'=>e=.returned (.tuple #[.string ⟨(Lib.cut s.data.toList sep.data.toList).1.toArray⟩,.string ⟨(Lib.cut s.data.toList sep.data.toList).2.1.toArray⟩,.bool (Lib.cut s.data.toList sep.data.toList).2.2])/\∃n,w'=w.drewN n:=Any.strings_Cut Tryz.lays145 s sep m w hs hm
def Tryz.lays99_ren:Go.Shelf.Ren:=⟨fun|99=>110|206=>137|n=>n,fun|9=>9|4=>4|3=>3|n=>n,fun|n=>n⟩
theorem Tryz.lays99:Go.Proofs.Lays.n99 prog Tryz.lays99_ren:={
  mixed:=by kernel_rfl
  f99:=func110.trans (congrArg some (by kernel_rfl))
  f206:=func137.trans (congrArg some (by kernel_rfl))
  t3:=underlying3
  a3:=Tryz.isAgg3
  z3:=Tryz.sizeOf3
  v3:=Tryz.zeroValue3
  t4:=underlying4
  a4:=Tryz.isAgg4
  z4:=Tryz.sizeOf4
  v4:=Tryz.zeroValue4
  t9:=underlying9
  a9:=Tryz.isAgg9
  z9:=Tryz.sizeOf9
  v9:=Tryz.zeroValue9 }
open Go.RowKit Go.Lib in
theorem Tryz.strings_HasPrefix (s p:ByteArray)(w:World) :
  Calls prog 110 #[.string s,.string p] w fun e w'=>e=.returned (.bool (Lib.hasPrefix s.data.toList p.data.toList))/\w'=w:=Any.strings_HasPrefix Tryz.lays99 s p w
def Tryz.lays100_ren:Go.Shelf.Ren:=⟨fun|100=>67|207=>107|n=>n,fun|9=>9|4=>4|3=>3|n=>n,fun|n=>n⟩
theorem Tryz.lays100:Go.Proofs.Lays.n100 prog Tryz.lays100_ren:={
  mixed:=by kernel_rfl
  f100:=func67.trans (congrArg some (by kernel_rfl))
  f207:=func107.trans (congrArg some (by kernel_rfl))
  t3:=underlying3
  a3:=Tryz.isAgg3
  z3:=Tryz.sizeOf3
  v3:=Tryz.zeroValue3
  t4:=underlying4
  a4:=Tryz.isAgg4
  z4:=Tryz.sizeOf4
  v4:=Tryz.zeroValue4
  t9:=underlying9
  a9:=Tryz.isAgg9
  z9:=Tryz.sizeOf9
  v9:=Tryz.zeroValue9 }
open Go.RowKit Go.Lib in
theorem Tryz.strings_HasSuffix (s p:ByteArray)(w:World)(hs:s.size<=9223372036854775807) :
  Calls prog 67 #[.string s,.string p] w fun e w'=>e=.returned (.bool (Lib.hasSuffix s.data.toList p.data.toList))/\w'=w:=Any.strings_HasSuffix Tryz.lays100 s p w hs
def Tryz.lays146_ren:Go.Shelf.Ren:=⟨fun|146=>34|221=>69|268=>111|138=>112|143=>113|195=>138|197=>139|218=>140|219=>141|260=>161|217=>162|225=>163|224=>164|267=>165|266=>179|314=>180|n=>n,fun|9=>9|31=>58|3=>3|4=>4|0=>0|105=>163|21=>21|5=>5|46=>35|119=>189|139=>192|138=>191|146=>193|51=>48|n=>n,fun|1=>0|3=>2|4=>3|n=>n⟩
theorem Tryz.lays146:Go.Proofs.Lays.n146 prog Tryz.lays146_ren:={
  mixed:=by kernel_rfl
  f138:=func112.trans (congrArg some (by kernel_rfl))
  f143:=func113.trans (congrArg some (by kernel_rfl))
  f146:=func34.trans (congrArg some (by kernel_rfl))
  f195:=func138.trans (congrArg some (by kernel_rfl))
  f197:=func139.trans (congrArg some (by kernel_rfl))
  f217:=func162.trans (congrArg some (by kernel_rfl))
  f218:=func140.trans (congrArg some (by kernel_rfl))
  f219:=func141.trans (congrArg some (by kernel_rfl))
  f221:=func69.trans (congrArg some (by kernel_rfl))
  f224:=func164.trans (congrArg some (by kernel_rfl))
  f225:=func163.trans (congrArg some (by kernel_rfl))
  f260:=func161.trans (congrArg some (by kernel_rfl))
  f266:=func179.trans (congrArg some (by kernel_rfl))
  f267:=func165.trans (congrArg some (by kernel_rfl))
  f268:=func111.trans (congrArg some (by kernel_rfl))
  f314:=func180.trans (congrArg some (by kernel_rfl))
  t0:=underlying0
  a0:=Tryz.isAgg0
  z0:=Tryz.sizeOf0
  v0:=Tryz.zeroValue0
  t3:=underlying3
  a3:=Tryz.isAgg3
  z3:=Tryz.sizeOf3
  v3:=Tryz.zeroValue3
  t4:=underlying4
  a4:=Tryz.isAgg4
  z4:=Tryz.sizeOf4
  v4:=Tryz.zeroValue4
  t5:=underlying5
  a5:=Tryz.isAgg5
  z5:=Tryz.sizeOf5
  v5:=Tryz.zeroValue5
  t9:=underlying9
  a9:=Tryz.isAgg9
  z9:=Tryz.sizeOf9
  v9:=Tryz.zeroValue9
  t21:=underlying21
  a21:=Tryz.isAgg21
  z21:=Tryz.sizeOf21
  v21:=Tryz.zeroValue21
  t31:=underlying58
  a31:=Tryz.isAgg58
  z31:=Tryz.sizeOf58
  v31:=Tryz.zeroValue58
  t46:=underlying35
  a46:=Tryz.isAgg35
  z46:=Tryz.sizeOf35
  v46:=Tryz.zeroValue35
  t51:=underlying48
  a51:=Tryz.isAgg48
  z51:=Tryz.sizeOf48
  v51:=Tryz.zeroValue48
  t105:=underlying163
  a105:=Tryz.isAgg163
  z105:=Tryz.sizeOf163
  v105:=Tryz.zeroValue163
  t119:=underlying189
  a119:=Tryz.isAgg189
  z119:=Tryz.sizeOf189
  t138:=underlying191
  a138:=Tryz.isAgg191
  z138:=Tryz.sizeOf191
  v138:=Tryz.zeroValue191
  t139:=underlying192
  a139:=Tryz.isAgg192
  z139:=Tryz.sizeOf192
  v139:=Tryz.zeroValue192
  t146:=underlying193
  a146:=Tryz.isAgg193
  z146:=Tryz.sizeOf193
  v146:=Tryz.zeroValue193
  g1:=by kernel_rfl
  g3:=by kernel_rfl
  g4:=by kernel_rfl}
open Go.RowKit Go.Lib in
theorem Tryz.strings_Split (s sep:ByteArray)(m:Int)(w:World)(hs:s.size<4294967281)(hm:w.cell? ⟨0,0,none⟩=some (.int .i64 m))(h1:1<=sep.size) :
  Calls prog 34 #[.string s,.string sep] w fun e w' =>
   e=.returned (.slice (some ⟨w.heap.size,0,none⟩) (Lib.countB s sep+1) (Lib.countB s sep+1))/\w'=w.alloc (.cells ((Lib.splitB sep 0 (Lib.countB s sep) s).map Value.string).toArray 9):=Any.strings_Split Tryz.lays146 (by kernel_rfl) s sep m w hs hm h1
def Tryz.lays109_ren:Go.Shelf.Ren:=⟨fun|109=>42|n=>n,fun|31=>58|9=>9|3=>3|0=>0|4=>4|n=>n,fun|n=>n⟩
theorem Tryz.lays109:Go.Proofs.Lays.n109 prog Tryz.lays109_ren:={
  mixed:=by kernel_rfl
  f109:=func42.trans (congrArg some (by kernel_rfl))
  t0:=underlying0
  a0:=Tryz.isAgg0
  z0:=Tryz.sizeOf0
  v0:=Tryz.zeroValue0
  t3:=underlying3
  a3:=Tryz.isAgg3
  z3:=Tryz.sizeOf3
  v3:=Tryz.zeroValue3
  t4:=underlying4
  a4:=Tryz.isAgg4
  z4:=Tryz.sizeOf4
  v4:=Tryz.zeroValue4
  t9:=underlying9
  a9:=Tryz.isAgg9
  z9:=Tryz.sizeOf9
  v9:=Tryz.zeroValue9
  t31:=underlying58
  a31:=Tryz.isAgg58
  z31:=Tryz.sizeOf58
  v31:=Tryz.zeroValue58 }
open Go.Lib in
theorem Tryz.slices_Index_string (b off n c:Nat)(zs:List ByteArray)(x:ByteArray)(w:World)(hz:n<=zs.length)(hbig:n<=9223372036854775807)(hc:∀j,j<zs.length->w.cell? ⟨b,off+j,none⟩=some (.string (zs.getD j ByteArray.empty))) :
  Calls prog 42 #[.slice (some ⟨b,off,none⟩) n c,.string x] w fun e w'=>e=.returned (.int .i64 (Lib.idxOfS (zs.take n) x))/\w'=w:=Any.slices_Index_string Tryz.lays109 b off n c zs x w hz hbig hc
open Go.Lib in
theorem Tryz.slices_Index_string_empty (a:Option Addr)(c:Nat)(x:ByteArray)(w:World) :
  Calls prog 42 #[.slice a 0 c,.string x] w fun e w'=>e=.returned (.int .i64 (Lib.idxOfS [] x))/\w'=w:=Any.slices_Index_string_empty Tryz.lays109 a c x w
end Go.Proofs

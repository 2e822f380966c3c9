/- Parts. -/
import Derived.Test.YthfhamagopbgcaaGreatL00
import Derived.Shelf.SlSortCmp.SmallK
import Derived.Shelf.Small.Bits
import Derived.Test.YthfhamagopbgcaaGreatProg
set_option linter.unusedSimpArgs false
set_option linter.unusedVariables false
set_option maxRecDepth 100000
set_option maxHeartbeats 16000000
namespace Go.Proofs
open Go.Shelf
def Tryz.sortP_ren:Go.Shelf.Ren:=⟨fun|6=>139|15=>167|14=>166|28=>199|29=>200|20=>191|21=>192|22=>193|23=>194|24=>195|25=>196|26=>197|27=>198|46=>212|47=>213|48=>214|49=>215|50=>216|57=>219|n=>n,fun|22=>180|24=>181|25=>183|3=>3|39=>93|0=>0|53=>35|55=>157|4=>4|46=>223|45=>222|50=>89|5=>5|9=>9|66=>243|70=>247|76=>251|77=>187|n=>n,fun|n=>n⟩
theorem Tryz.sortP:Go.Proofs.SlLaysF0.n6 Tryz.prog Tryz.sortP_ren:={
  mixed:=by kernel_rfl
  f6:=⟨Tryz.f139.name,by decide,Tryz.func139.trans (congrArg some (by kernel_rfl))⟩
  f14:=⟨Tryz.f166.name,by decide,Tryz.func166.trans (congrArg some (by kernel_rfl))⟩
  f15:=Tryz.func167.trans (congrArg some (by kernel_rfl))
  f20:=⟨Tryz.f191.name,by decide,Tryz.func191.trans (congrArg some (by kernel_rfl))⟩
  f21:=⟨Tryz.f192.name,by decide,Tryz.func192.trans (congrArg some (by kernel_rfl))⟩
  f22:=⟨Tryz.f193.name,by decide,Tryz.func193.trans (congrArg some (by kernel_rfl))⟩
  f23:=⟨Tryz.f194.name,by decide,Tryz.func194.trans (congrArg some (by kernel_rfl))⟩
  f24:=⟨Tryz.f195.name,by decide,Tryz.func195.trans (congrArg some (by kernel_rfl))⟩
  f25:=⟨Tryz.f196.name,by decide,Tryz.func196.trans (congrArg some (by kernel_rfl))⟩
  f26:=⟨Tryz.f197.name,by decide,Tryz.func197.trans (congrArg some (by kernel_rfl))⟩
  f27:=⟨Tryz.f198.name,by decide,Tryz.func198.trans (congrArg some (by kernel_rfl))⟩
  f28:=Tryz.func199.trans (congrArg some (by kernel_rfl))
  f29:=Tryz.func200.trans (congrArg some (by kernel_rfl))
  f46:=⟨Tryz.f212.name,by decide,Tryz.func212.trans (congrArg some (by kernel_rfl))⟩
  f47:=Tryz.func213.trans (congrArg some (by kernel_rfl))
  f48:=Tryz.func214.trans (congrArg some (by kernel_rfl))
  f49:=⟨Tryz.f215.name,by decide,Tryz.func215.trans (congrArg some (by kernel_rfl))⟩
  f50:=⟨Tryz.f216.name,by decide,Tryz.func216.trans (congrArg some (by kernel_rfl))⟩
  f57:=⟨Tryz.f219.name,by decide,Tryz.func219.trans (congrArg some (by kernel_rfl))⟩
  t0:=Tryz.underlying0
  a0:=Tryz.isAgg0
  z0:=Tryz.sizeOf0
  v0:=Tryz.zeroValue0
  t3:=Tryz.underlying3
  a3:=Tryz.isAgg3
  z3:=Tryz.sizeOf3
  v3:=Tryz.zeroValue3
  t4:=Tryz.underlying4
  a4:=Tryz.isAgg4
  z4:=Tryz.sizeOf4
  v4:=Tryz.zeroValue4
  t5:=Tryz.underlying5
  a5:=Tryz.isAgg5
  z5:=Tryz.sizeOf5
  v5:=Tryz.zeroValue5
  t9:=Tryz.underlying9
  a9:=Tryz.isAgg9
  z9:=Tryz.sizeOf9
  v9:=Tryz.zeroValue9
  t22:=Tryz.underlying180
  a22:=Tryz.isAgg180
  z22:=Tryz.sizeOf180
  v22:=Tryz.zeroValue180
  t25:=Tryz.underlying183
  a25:=Tryz.isAgg183
  z25:=Tryz.sizeOf183
  v25:=Tryz.zeroValue183
  t39:=Tryz.underlying93
  a39:=Tryz.isAgg93
  z39:=Tryz.sizeOf93
  v39:=Tryz.zeroValue93
  t45:=Tryz.underlying222
  a45:=Tryz.isAgg222
  z45:=Tryz.sizeOf222
  v45:=Tryz.zeroValue222
  t46:=Tryz.underlying223
  a46:=Tryz.isAgg223
  z46:=Tryz.sizeOf223
  v46:=Tryz.zeroValue223
  t50:=Tryz.underlying89
  a50:=Tryz.isAgg89
  z50:=Tryz.sizeOf89
  v50:=Tryz.zeroValue89
  t53:=Tryz.underlying35
  a53:=Tryz.isAgg35
  z53:=Tryz.sizeOf35
  v53:=Tryz.zeroValue35
  t55:=Tryz.underlying157
  a55:=Tryz.isAgg157
  z55:=Tryz.sizeOf157
  v55:=Tryz.zeroValue157
  t66:=Tryz.underlying243
  a66:=Tryz.isAgg243
  z66:=Tryz.sizeOf243
  v66:=Tryz.zeroValue243
  t70:=Tryz.underlying247
  a70:=Tryz.isAgg247
  z70:=Tryz.sizeOf247
  v70:=Tryz.zeroValue247
  t76:=Tryz.underlying251
  a76:=Tryz.isAgg251
  z76:=Tryz.sizeOf251
  v76:=Tryz.zeroValue251
  t77:=Tryz.underlying187
  a77:=Tryz.isAgg187
  z77:=Tryz.sizeOf187
  v77:=Tryz.zeroValue187}
def Tryz.bitsLen_ren:Go.Shelf.Ren:=⟨fun|125=>167|128=>199|129=>200|n=>n,fun|46=>93|3=>3|51=>35|53=>157|4=>4|5=>5|9=>9|n=>n,fun|n=>n⟩
theorem Tryz.bitsLen:Go.Proofs.Lays.n125 Tryz.prog Tryz.bitsLen_ren:={
  mixed:=by kernel_rfl
  f125:=Tryz.func167.trans (congrArg some (by kernel_rfl))
  f128:=Tryz.func199.trans (congrArg some (by kernel_rfl))
  f129:=Tryz.func200.trans (congrArg some (by kernel_rfl))
  t3:=Tryz.underlying3
  a3:=Tryz.isAgg3
  z3:=Tryz.sizeOf3
  v3:=Tryz.zeroValue3
  t4:=Tryz.underlying4
  a4:=Tryz.isAgg4
  z4:=Tryz.sizeOf4
  v4:=Tryz.zeroValue4
  t5:=Tryz.underlying5
  a5:=Tryz.isAgg5
  z5:=Tryz.sizeOf5
  v5:=Tryz.zeroValue5
  t9:=Tryz.underlying9
  a9:=Tryz.isAgg9
  z9:=Tryz.sizeOf9
  v9:=Tryz.zeroValue9
  t46:=Tryz.underlying93
  a46:=Tryz.isAgg93
  z46:=Tryz.sizeOf93
  v46:=Tryz.zeroValue93
  t51:=Tryz.underlying35
  a51:=Tryz.isAgg35
  z51:=Tryz.sizeOf35
  v51:=Tryz.zeroValue35
  t53:=Tryz.underlying157
  a53:=Tryz.isAgg157
  z53:=Tryz.sizeOf157
  v53:=Tryz.zeroValue157}
end Go.Proofs

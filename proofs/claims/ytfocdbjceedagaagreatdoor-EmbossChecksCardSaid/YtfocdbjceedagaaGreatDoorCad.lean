/-
  Parts.
-/
import Derived.Test.YtfocdbjceedagaaGreatDoorProg
import Derived.Shelf.SlSortCmp.WholeK
import Derived.Ground.SlsfProg
set_option linter.unusedVariables false
set_option linter.unusedSimpArgs false
namespace Go.Proofs
section
open Go.Shelf
def Tryz.sortSpot_ren :Go.Shelf.Ren:=⟨λ|6=>161|15=>181|14=>180|28=>201|29=>189|20=>193|21=>194|22=>195|23=>196|24=>197|25=>198|26=>199|27=>200|46=>209|47=>210|48=>211|49=>212|50=>213|57=>216|n=>n,λ|22=>188|24=>122|25=>191|3=>3|39=>192|0=>0|53=>257|55=>235|4=>4|46=>261|45=>260|50=>156|5=>5|9=>9|66=>273|70=>277|76=>282|77=>55|n=>n,λ|n=>n⟩
theorem Tryz.sortSpot :Go.Proofs.SlLaysF0.n6 prog Tryz.sortSpot_ren:={
 mixed:=by kernel_rfl
 f6:=⟨Tryz.f161.name,by decide,func161.trans (congrArg some (by kernel_rfl))⟩
 f14:=⟨Tryz.f180.name,by decide,func180.trans (congrArg some (by kernel_rfl))⟩
 f15:=func181.trans (congrArg some (by kernel_rfl))
 f20:=⟨Tryz.f193.name,by decide,func193.trans (congrArg some (by kernel_rfl))⟩
 f21:=⟨Tryz.f194.name,by decide,func194.trans (congrArg some (by kernel_rfl))⟩
 f22:=⟨Tryz.f195.name,by decide,func195.trans (congrArg some (by kernel_rfl))⟩
 f23:=⟨Tryz.f196.name,by decide,func196.trans (congrArg some (by kernel_rfl))⟩
 f24:=⟨Tryz.f197.name,by decide,func197.trans (congrArg some (by kernel_rfl))⟩
 f25:=⟨Tryz.f198.name,by decide,func198.trans (congrArg some (by kernel_rfl))⟩
 f26:=⟨Tryz.f199.name,by decide,func199.trans (congrArg some (by kernel_rfl))⟩
 f27:=⟨Tryz.f200.name,by decide,func200.trans (congrArg some (by kernel_rfl))⟩
 f28:=func201.trans (congrArg some (by kernel_rfl))
 f29:=func189.trans (congrArg some (by kernel_rfl))
 f46:=⟨Tryz.f209.name,by decide,func209.trans (congrArg some (by kernel_rfl))⟩
 f47:=func210.trans (congrArg some (by kernel_rfl))
 f48:=func211.trans (congrArg some (by kernel_rfl))
 f49:=⟨Tryz.f212.name,by decide,func212.trans (congrArg some (by kernel_rfl))⟩
 f50:=⟨Tryz.f213.name,by decide,func213.trans (congrArg some (by kernel_rfl))⟩
 f57:=⟨Tryz.f216.name,by decide,func216.trans (congrArg some (by kernel_rfl))⟩
 t0:=underlying0
 a0:=isAgg0
 z0:=sizeOf0
 v0:=zeroValue0
 t3:=underlying3
 a3:=isAgg3
 z3:=sizeOf3
 v3:=zeroValue3
 t4:=underlying4
 a4:=isAgg4
 z4:=sizeOf4
 v4:=zeroValue4
 t5:=underlying5
 a5:=isAgg5
 z5:=sizeOf5
 v5:=zeroValue5
 t9:=underlying9
 a9:=isAgg9
 z9:=sizeOf9
 v9:=zeroValue9
 t22:=underlying188
 a22:=isAgg188
 z22:=sizeOf188
 v22:=zeroValue188
 t25:=underlying191
 a25:=isAgg191
 z25:=sizeOf191
 v25:=zeroValue191
 t39:=underlying192
 a39:=isAgg192
 z39:=sizeOf192
 v39:=zeroValue192
 t45:=underlying260
 a45:=isAgg260
 z45:=sizeOf260
 v45:=zeroValue260
 t46:=underlying261
 a46:=isAgg261
 z46:=sizeOf261
 v46:=zeroValue261
 t50:=underlying156
 a50:=isAgg156
 z50:=sizeOf156
 v50:=zeroValue156
 t53:=underlying257
 a53:=isAgg257
 z53:=sizeOf257
 v53:=zeroValue257
 t55:=underlying235
 a55:=isAgg235
 z55:=sizeOf235
 v55:=zeroValue235
 t66:=underlying273
 a66:=isAgg273
 z66:=sizeOf273
 v66:=zeroValue273
 t70:=underlying277
 a70:=isAgg277
 z70:=sizeOf277
 v70:=zeroValue277
 t76:=underlying282
 a76:=isAgg282
 z76:=sizeOf282
 v76:=zeroValue282
 t77:=underlying55
 a77:=isAgg55
 z77:=sizeOf55
 v77:=zeroValue55 }
end
end Go.Proofs

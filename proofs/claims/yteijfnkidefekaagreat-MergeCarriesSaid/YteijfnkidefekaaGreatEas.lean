/-
  Parts.
-/
import Derived.Test.YteijfnkidefekaaGreatEal
import Derived.Shelf.Small.Bits
import Derived.Shelf.Strconv.Itoa0
import Derived.Shelf.Sort.Plain
import Derived.Ground.Names2Prog
import Derived.Shelf.Slices.CompactI
import Derived.Shelf.Slices.SearchI
import Derived.Shelf.Slices.Cells
import Derived.Shelf.Slices.In.SortNone
import Derived.Shelf.SlIterI.Nil
import Derived.Shelf.SortM.Plain
import Derived.Shelf.SortM.SortNone
import Derived.Ground.GgzProg
import Derived.Ground.SlgmProg
set_option linter.unusedVariables false
set_option linter.unusedSimpArgs false
set_option linter.unusedSectionVars false
namespace Go.Proofs
section
open Go.Shelf
def Tryz.laysNm220_ren :Go.Shelf.Ren:=⟨λ|20=>73|n=>n,λ|22=>100|3=>3|4=>4|0=>0|n=>n,λ|n=>n⟩
theorem Tryz.laysNm220 :Go.Proofs.Lays2.n20 prog Tryz.laysNm220_ren:={
 mixed:=by kernel_rfl
 f20:=func73.trans (congrArg some (by kernel_rfl))
 t0:=underlying0
 a0:=isAgg0
 z0:=sizeOf0
 v0:=zeroValue0
 t3:=underlying3
 a3:=isAgg3
 z3:=sizeOf3
 v3:=zeroValue3
 t4:=underlying4
 a4:=isAgg4
 z4:=sizeOf4
 v4:=zeroValue4
 t22:=underlying100
 a22:=isAgg100
 z22:=sizeOf100
 v22:=zeroValue100
 i3:=by kernel_rfl }
open Go.RowKit Go.Lib Go.Sort in
theorem Tryz.slices_Compact_int (blk off cap:Nat)(zs:List Int)(w:World)(hH:Holds (Value.int .i64) w blk off zs.toArray)(aM:zs.length<=9223372036854775807)(dq:zs.length<=cap) :
 Calls prog 73 #[.slice (some ⟨blk,off,none⟩) zs.length cap] w λe w'=>e= .returned (.slice (some ⟨blk,off,none⟩) (Lib.compact zs).length cap)/\∃q,w'=putRow (Value.int .i64) (Sort.ahead w q) blk off (Lib.compact zs++List.replicate (zs.length-(Lib.compact zs).length) 0).toArray:=Any.slices_Compact_int Tryz.laysNm220 blk off cap zs w hH aM dq
open Go.RowKit Go.Lib Go.Sort in
theorem Tryz.slices_Compact_int_empty (a:Option Addr)(cap:Nat)(w:World) :
 Calls prog 73 #[.slice a 0 cap] w λe w'=>e= .returned (.slice a 0 cap)/\w'=w:=Any.slices_Compact_int_empty Tryz.laysNm220 a cap w
def Tryz.keysT_ren :Go.Shelf.Ren:=⟨λ|7=>52|10=>94|n=>n,λ|23=>62|26=>3|3=>124|28=>130|0=>0|27=>129|33=>172|4=>4|n=>n,λ|n=>n⟩
theorem Tryz.keysT :Go.Proofs.SlLaysZI.n7 prog Tryz.keysT_ren:={
 mixed:=by kernel_rfl
 f7:=⟨Tryz.f52.name,by decide,func52.trans (congrArg some (by kernel_rfl))⟩
 f10:=⟨Tryz.f94.name,by decide,func94.trans (congrArg some (by kernel_rfl))⟩
 t0:=underlying0
 a0:=isAgg0
 z0:=sizeOf0
 v0:=zeroValue0
 t4:=underlying4
 a4:=isAgg4
 z4:=sizeOf4
 v4:=zeroValue4
 t23:=underlying62
 a23:=isAgg62
 z23:=sizeOf62
 v23:=zeroValue62
 t26:=underlying3
 a26:=isAgg3
 z26:=sizeOf3
 v26:=zeroValue3
 t27:=underlying129
 a27:=isAgg129
 z27:=sizeOf129
 v27:=zeroValue129
 t28:=underlying130
 a28:=isAgg130
 z28:=sizeOf130
 v28:=zeroValue130
 t33:=underlying172
 a33:=isAgg172
 z33:=sizeOf172
 v33:=zeroValue172 }
def Tryz.keysB_ren :Go.Shelf.Ren:=⟨λ|7=>74|10=>109|n=>n,λ|23=>148|26=>3|3=>4|28=>130|0=>0|27=>129|33=>172|4=>4|n=>n,λ|n=>n⟩
theorem Tryz.keysB :Go.Proofs.SlLaysZI.n7 prog Tryz.keysB_ren:={
 mixed:=by kernel_rfl
 f7:=⟨Tryz.f74.name,by decide,func74.trans (congrArg some (by kernel_rfl))⟩
 f10:=⟨Tryz.f109.name,by decide,func109.trans (congrArg some (by kernel_rfl))⟩
 t0:=underlying0
 a0:=isAgg0
 z0:=sizeOf0
 v0:=zeroValue0
 t4:=underlying4
 a4:=isAgg4
 z4:=sizeOf4
 v4:=zeroValue4
 t23:=underlying148
 a23:=isAgg148
 z23:=sizeOf148
 v23:=zeroValue148
 t26:=underlying3
 a26:=isAgg3
 z26:=sizeOf3
 v26:=zeroValue3
 t27:=underlying129
 a27:=isAgg129
 z27:=sizeOf129
 v27:=zeroValue129
 t28:=underlying130
 a28:=isAgg130
 z28:=sizeOf130
 v28:=zeroValue130
 t33:=underlying172
 a33:=isAgg172
 z33:=sizeOf172
 v33:=zeroValue172 }
def Tryz.sortedI_ren :Go.Shelf.Ren:=⟨λ|6=>51|8=>93|9=>72|11=>117|13=>108|12=>107|23=>136|24=>137|14=>127|15=>128|16=>129|17=>130|18=>131|19=>132|20=>133|21=>134|22=>135|25=>147|26=>148|27=>149|28=>150|29=>151|30=>98|31=>160|n=>n,λ|26=>3|28=>130|24=>100|0=>0|3=>3|37=>181|48=>206|50=>208|4=>4|40=>199|39=>198|45=>167|5=>5|9=>9|51=>221|55=>225|57=>233|58=>234|33=>172|n=>n,λ|n=>n⟩
theorem Tryz.sortedI :Go.Proofs.SlLaysZI.n6 prog Tryz.sortedI_ren:={
 mixed:=by kernel_rfl
 f6:=⟨Tryz.f51.name,by decide,func51.trans (congrArg some (by kernel_rfl))⟩
 f8:=⟨Tryz.f93.name,by decide,func93.trans (congrArg some (by kernel_rfl))⟩
 f11:=⟨Tryz.f117.name,by decide,func117.trans (congrArg some (by kernel_rfl))⟩
 t0:=underlying0
 a0:=isAgg0
 z0:=sizeOf0
 v0:=zeroValue0
 t24:=underlying100
 a24:=isAgg100
 z24:=sizeOf100
 v24:=zeroValue100
 t26:=underlying3
 a26:=isAgg3
 z26:=sizeOf3
 v26:=zeroValue3
 t28:=underlying130
 a28:=isAgg130
 z28:=sizeOf130
 v28:=zeroValue130
 i26:=by kernel_rfl }
def Tryz.sortI_ren :Go.Shelf.Ren:=⟨λ|5=>72|8=>108|7=>107|19=>136|20=>137|10=>127|11=>128|12=>129|13=>130|14=>131|15=>132|16=>133|17=>134|18=>135|30=>147|31=>148|32=>149|33=>150|34=>151|35=>98|40=>160|n=>n,λ|23=>100|25=>3|3=>3|32=>181|22=>100|0=>0|44=>206|46=>208|4=>4|36=>199|35=>198|41=>167|5=>5|9=>9|53=>221|57=>225|63=>233|64=>234|n=>n,λ|n=>n⟩
theorem Tryz.sortI :Go.Proofs.SlLaysM.n5 prog Tryz.sortI_ren:={
 mixed:=by kernel_rfl
 f5:=⟨Tryz.f72.name,by decide,func72.trans (congrArg some (by kernel_rfl))⟩
 f7:=⟨Tryz.f107.name,by decide,func107.trans (congrArg some (by kernel_rfl))⟩
 f8:=func108.trans (congrArg some (by kernel_rfl))
 f10:=⟨Tryz.f127.name,by decide,func127.trans (congrArg some (by kernel_rfl))⟩
 f11:=⟨Tryz.f128.name,by decide,func128.trans (congrArg some (by kernel_rfl))⟩
 f12:=⟨Tryz.f129.name,by decide,func129.trans (congrArg some (by kernel_rfl))⟩
 f13:=⟨Tryz.f130.name,by decide,func130.trans (congrArg some (by kernel_rfl))⟩
 f14:=⟨Tryz.f131.name,by decide,func131.trans (congrArg some (by kernel_rfl))⟩
 f15:=⟨Tryz.f132.name,by decide,func132.trans (congrArg some (by kernel_rfl))⟩
 f16:=⟨Tryz.f133.name,by decide,func133.trans (congrArg some (by kernel_rfl))⟩
 f17:=⟨Tryz.f134.name,by decide,func134.trans (congrArg some (by kernel_rfl))⟩
 f18:=⟨Tryz.f135.name,by decide,func135.trans (congrArg some (by kernel_rfl))⟩
 f19:=func136.trans (congrArg some (by kernel_rfl))
 f20:=func137.trans (congrArg some (by kernel_rfl))
 f30:=⟨Tryz.f147.name,by decide,func147.trans (congrArg some (by kernel_rfl))⟩
 f31:=func148.trans (congrArg some (by kernel_rfl))
 f32:=func149.trans (congrArg some (by kernel_rfl))
 f33:=⟨Tryz.f150.name,by decide,func150.trans (congrArg some (by kernel_rfl))⟩
 f34:=⟨Tryz.f151.name,by decide,func151.trans (congrArg some (by kernel_rfl))⟩
 f35:=⟨Tryz.f98.name,by decide,func98.trans (congrArg some (by kernel_rfl))⟩
 f40:=⟨Tryz.f160.name,by decide,func160.trans (congrArg some (by kernel_rfl))⟩
 t0:=underlying0
 a0:=isAgg0
 z0:=sizeOf0
 v0:=zeroValue0
 t3:=underlying3
 a3:=isAgg3
 z3:=sizeOf3
 v3:=zeroValue3
 t4:=underlying4
 a4:=isAgg4
 z4:=sizeOf4
 v4:=zeroValue4
 t5:=underlying5
 a5:=isAgg5
 z5:=sizeOf5
 v5:=zeroValue5
 t9:=underlying9
 a9:=isAgg9
 z9:=sizeOf9
 v9:=zeroValue9
 t22:=underlying100
 a22:=isAgg100
 z22:=sizeOf100
 v22:=zeroValue100
 t23:=underlying100
 a23:=isAgg100
 z23:=sizeOf100
 v23:=zeroValue100
 t25:=underlying3
 a25:=isAgg3
 z25:=sizeOf3
 v25:=zeroValue3
 t32:=underlying181
 a32:=isAgg181
 z32:=sizeOf181
 v32:=zeroValue181
 t35:=underlying198
 a35:=isAgg198
 z35:=sizeOf198
 v35:=zeroValue198
 t36:=underlying199
 a36:=isAgg199
 z36:=sizeOf199
 v36:=zeroValue199
 t41:=underlying167
 a41:=isAgg167
 z41:=sizeOf167
 v41:=zeroValue167
 t44:=underlying206
 a44:=isAgg206
 z44:=sizeOf206
 v44:=zeroValue206
 t46:=underlying208
 a46:=isAgg208
 z46:=sizeOf208
 v46:=zeroValue208
 t53:=underlying221
 a53:=isAgg221
 z53:=sizeOf221
 v53:=zeroValue221
 t57:=underlying225
 a57:=isAgg225
 z57:=sizeOf225
 v57:=zeroValue225
 t63:=underlying233
 a63:=isAgg233
 z63:=sizeOf233
 v63:=zeroValue233
 t64:=underlying234
 a64:=isAgg234
 z64:=sizeOf234
 v64:=zeroValue234 }
end
end Go.Proofs

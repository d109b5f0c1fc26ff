/-
  Parts.
-/
import Derived.Test.YteijfnkidefekaaGreatProg
import Derived.Shelf.Small.Wraps
import Derived.Shelf.SlGeneric
import Derived.Shelf.SlicesE.Clone
import Derived.Shelf.SlicesQ.Equal
import Derived.Ground.SlgnProg
import Derived.Ground.SlgqProg
set_option linter.unusedVariables false
set_option linter.unusedSimpArgs false
set_option linter.unusedSectionVars false
namespace Go.Proofs
section
open Go.Shelf
def Tryz.lays215_ren :Go.Shelf.Ren:=⟨λ|215=>98|n=>n,λ|3=>3|4=>4|n=>n,λ|n=>n⟩
def Tryz.lays122_ren :Go.Shelf.Ren:=⟨λ|122=>58|215=>98|n=>n,λ|3=>3|4=>4|n=>n,λ|n=>n⟩
theorem Tryz.lays122 :Go.Proofs.Lays.n122 prog Tryz.lays122_ren:={
 mixed:=by kernel_rfl
 f122:=func58.trans (congrArg some (by kernel_rfl))
 f215:=func98.trans (congrArg some (by kernel_rfl))
 t3:=underlying3
 a3:=isAgg3
 z3:=sizeOf3
 v3:=zeroValue3
 t4:=underlying4
 a4:=isAgg4
 z4:=sizeOf4
 v4:=zeroValue4 }
open Go.RowKit in
theorem Tryz.cmp_Compare_int (x y:Int)(w:World) :
 Calls prog 58 #[.int .i64 x,.int .i64 y] w λe w'=>e= .returned (.int .i64 (Lib.compareInt x y))/\w'=w:=Any.cmp_Compare_int Tryz.lays122 x y w
def Tryz.cloneEg_ren :Go.Shelf.Ren:=⟨λ|41=>55|n=>n,λ|22=>27|23=>71|4=>4|n=>n,λ|n=>n⟩
theorem Tryz.cloneEg :Go.Proofs.SlLaysE0.n41 prog Tryz.cloneEg_ren:={
 mixed:=by kernel_rfl
 f41:=⟨Tryz.f55.name,by decide,func55.trans (congrArg some (by kernel_rfl))⟩
 t4:=underlying4
 a4:=isAgg4
 z4:=sizeOf4
 v4:=zeroValue4
 t22:=underlying27
 a22:=isAgg27
 z22:=sizeOf27
 v22:=zeroValue27 }
def Tryz.cloneFc_ren :Go.Shelf.Ren:=⟨λ|41=>60|n=>n,λ|22=>28|23=>43|4=>4|n=>n,λ|n=>n⟩
theorem Tryz.cloneFc :Go.Proofs.SlLaysE0.n41 prog Tryz.cloneFc_ren:={
 mixed:=by kernel_rfl
 f41:=⟨Tryz.f60.name,by decide,func60.trans (congrArg some (by kernel_rfl))⟩
 t4:=underlying4
 a4:=isAgg4
 z4:=sizeOf4
 v4:=zeroValue4
 t22:=underlying28
 a22:=isAgg28
 z22:=sizeOf28
 v22:=zeroValue28 }
def Tryz.cloneWq_ren :Go.Shelf.Ren:=⟨λ|41=>64|n=>n,λ|22=>29|23=>46|4=>4|n=>n,λ|n=>n⟩
theorem Tryz.cloneWq :Go.Proofs.SlLaysE0.n41 prog Tryz.cloneWq_ren:={
 mixed:=by kernel_rfl
 f41:=⟨Tryz.f64.name,by decide,func64.trans (congrArg some (by kernel_rfl))⟩
 t4:=underlying4
 a4:=isAgg4
 z4:=sizeOf4
 v4:=zeroValue4
 t22:=underlying29
 a22:=isAgg29
 z22:=sizeOf29
 v22:=zeroValue29 }
def Tryz.clonePc_ren :Go.Shelf.Ren:=⟨λ|41=>68|n=>n,λ|22=>30|23=>48|4=>4|n=>n,λ|n=>n⟩
theorem Tryz.clonePc :Go.Proofs.SlLaysE0.n41 prog Tryz.clonePc_ren:={
 mixed:=by kernel_rfl
 f41:=⟨Tryz.f68.name,by decide,func68.trans (congrArg some (by kernel_rfl))⟩
 t4:=underlying4
 a4:=isAgg4
 z4:=sizeOf4
 v4:=zeroValue4
 t22:=underlying30
 a22:=isAgg30
 z22:=sizeOf30
 v22:=zeroValue30 }
def Tryz.clonePt_ren :Go.Shelf.Ren:=⟨λ|41=>37|n=>n,λ|22=>44|23=>41|4=>4|n=>n,λ|n=>n⟩
theorem Tryz.clonePt :Go.Proofs.SlLaysE0.n41 prog Tryz.clonePt_ren:={
 mixed:=by kernel_rfl
 f41:=⟨Tryz.f37.name,by decide,func37.trans (congrArg some (by kernel_rfl))⟩
 t4:=underlying4
 a4:=isAgg4
 z4:=sizeOf4
 v4:=zeroValue4
 t22:=underlying44
 a22:=isAgg44
 z22:=sizeOf44
 v22:=zeroValue44 }
def Tryz.equalFc_ren :Go.Shelf.Ren:=⟨λ|8=>26|n=>n,λ|22=>28|24=>43|4=>4|3=>3|0=>0|n=>n,λ|n=>n⟩
theorem Tryz.equalFc :Go.Proofs.SlLaysQ.n8 prog Tryz.equalFc_ren:={
 mixed:=by kernel_rfl
 f8:=⟨Tryz.f26.name,by decide,func26.trans (congrArg some (by kernel_rfl))⟩
 t0:=underlying0
 a0:=isAgg0
 z0:=sizeOf0
 v0:=zeroValue0
 t3:=underlying3
 a3:=isAgg3
 z3:=sizeOf3
 v3:=zeroValue3
 t4:=underlying4
 a4:=isAgg4
 z4:=sizeOf4
 v4:=zeroValue4
 t22:=underlying28
 a22:=isAgg28
 z22:=sizeOf28
 v22:=zeroValue28 }
def Tryz.equalPc_ren :Go.Shelf.Ren:=⟨λ|8=>28|n=>n,λ|22=>30|24=>48|4=>4|3=>3|0=>0|n=>n,λ|n=>n⟩
theorem Tryz.equalPc :Go.Proofs.SlLaysQ.n8 prog Tryz.equalPc_ren:={
 mixed:=by kernel_rfl
 f8:=⟨Tryz.f28.name,by decide,func28.trans (congrArg some (by kernel_rfl))⟩
 t0:=underlying0
 a0:=isAgg0
 z0:=sizeOf0
 v0:=zeroValue0
 t3:=underlying3
 a3:=isAgg3
 z3:=sizeOf3
 v3:=zeroValue3
 t4:=underlying4
 a4:=isAgg4
 z4:=sizeOf4
 v4:=zeroValue4
 t22:=underlying30
 a22:=isAgg30
 z22:=sizeOf30
 v22:=zeroValue30 }
def Tryz.equalPt_ren :Go.Shelf.Ren:=⟨λ|8=>23|n=>n,λ|22=>44|24=>41|4=>4|3=>3|0=>0|n=>n,λ|n=>n⟩
theorem Tryz.equalPt :Go.Proofs.SlLaysQ.n8 prog Tryz.equalPt_ren:={
 mixed:=by kernel_rfl
 f8:=⟨Tryz.f23.name,by decide,func23.trans (congrArg some (by kernel_rfl))⟩
 t0:=underlying0
 a0:=isAgg0
 z0:=sizeOf0
 v0:=zeroValue0
 t3:=underlying3
 a3:=isAgg3
 z3:=sizeOf3
 v3:=zeroValue3
 t4:=underlying4
 a4:=isAgg4
 z4:=sizeOf4
 v4:=zeroValue4
 t22:=underlying44
 a22:=isAgg44
 z22:=sizeOf44
 v22:=zeroValue44 }
end
end Go.Proofs

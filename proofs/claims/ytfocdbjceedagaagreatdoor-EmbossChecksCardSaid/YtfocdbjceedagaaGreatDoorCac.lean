/-
  Parts.
-/
import Derived.Test.YtfocdbjceedagaaGreatDoorProg
import Derived.Shelf.Strings.Builder1
import Derived.Shelf.Small.Bits
import Derived.Shelf.Small.Strs
import Derived.Shelf.Small.Wraps
import Derived.Shelf.Strings.BuilderF
import Derived.Shelf.Strings.BuilderK
import Derived.Shelf.Strconv.Itoa0
import Derived.Shelf.Strconv.Itoa1
import Derived.Shelf.LaysM
import Derived.Shelf.Strconv.Itoa2
import Derived.Shelf.Strconv.Itoa3
import Derived.Shelf.Strings.Search1
import Derived.Shelf.Strings.Prefix
import Derived.Ground.SlgfProg
import Derived.Shelf.SlicesE.IndexFunc
import Derived.Shelf.SlGeneric
import Derived.Shelf.SlicesE.Clone
import Derived.Shelf.SlicesQ.IndexFunc
import Derived.Shelf.SlicesQ.Equal
import Derived.Ground.SlgnProg
import Derived.Ground.SlgqProg
set_option linter.unusedVariables false
set_option linter.unusedSimpArgs false
namespace Go.Proofs
section
open Go.Shelf
def Tryz.lays169_ren :Go.Shelf.Ren:=⟨λ|169=>121|n=>n,λ|70=>176|9=>9|0=>0|72=>178|37=>116|127=>220|3=>3|5=>5|n=>n,λ|n=>n⟩
theorem Tryz.lays169 :Go.Proofs.Lays.n169 prog Tryz.lays169_ren:={
 mixed:=by kernel_rfl
 f169:=func121.trans (congrArg some (by kernel_rfl))
 t0:=underlying0
 a0:=isAgg0
 z0:=sizeOf0
 v0:=zeroValue0
 t3:=underlying3
 a3:=isAgg3
 z3:=sizeOf3
 v3:=zeroValue3
 t9:=underlying9
 a9:=isAgg9
 z9:=sizeOf9
 v9:=zeroValue9
 t37:=underlying116
 a37:=isAgg116
 z37:=sizeOf116
 v37:=zeroValue116
 t70:=underlying176
 a70:=isAgg176
 z70:=sizeOf176
 v70:=zeroValue176
 t72:=underlying178
 a72:=isAgg178
 z72:=sizeOf178
 v72:=zeroValue178
 t127:=underlying220
 a127:=isAgg220
 z127:=sizeOf220
 v127:=zeroValue220 }
theorem Tryz.Builder_Extra_169 :Builder.Extra prog Tryz.lays169_ren:={
 sizeBuilder:=by kernel_rfl
 liesBuilder:=by kernel_rfl
 t5:=underlying5
 a5:=isAgg5
 z5:=sizeOf5
 v5:=zeroValue5
 infoByte:=by kernel_rfl
 cellsByte:=by kernel_rfl
 sizeByte:=by kernel_rfl
 neB5:=by decide }
def Tryz.lays137_ren :Go.Shelf.Ren:=⟨λ|137=>120|217=>158|266=>174|n=>n,λ|9=>9|5=>5|3=>3|n=>n,λ|n=>n⟩
theorem Tryz.lays137 :Go.Proofs.Lays.n137 prog Tryz.lays137_ren:={
 mixed:=by kernel_rfl
 f137:=func120.trans (congrArg some (by kernel_rfl))
 f217:=func158.trans (congrArg some (by kernel_rfl))
 f266:=func174.trans (congrArg some (by kernel_rfl))
 t3:=underlying3
 a3:=isAgg3
 z3:=sizeOf3
 v3:=zeroValue3
 t5:=underlying5
 a5:=isAgg5
 z5:=sizeOf5
 v5:=zeroValue5
 t9:=underlying9
 a9:=isAgg9
 z9:=sizeOf9
 v9:=zeroValue9 }
open Go.RowKit in
theorem Tryz.strings_IndexByte (s:ByteArray)(c:Int)(w:World) :
 Calls prog 120 #[.string s,.int .u8 c] w λe w'=>e= .returned (.int .i64 (Lib.indexByte s.data.toList c.toNat.toUInt8))/\w'=w:=Any.strings_IndexByte Tryz.lays137 s c w
def Tryz.lays215_ren :Go.Shelf.Ren:=⟨λ|215=>151|n=>n,λ|3=>3|4=>4|n=>n,λ|n=>n⟩
def Tryz.lays122_ren :Go.Shelf.Ren:=⟨λ|122=>105|215=>151|n=>n,λ|3=>3|4=>4|n=>n,λ|n=>n⟩
theorem Tryz.lays122 :Go.Proofs.Lays.n122 prog Tryz.lays122_ren:={
 mixed:=by kernel_rfl
 f122:=func105.trans (congrArg some (by kernel_rfl))
 f215:=func151.trans (congrArg some (by kernel_rfl))
 t3:=underlying3
 a3:=isAgg3
 z3:=sizeOf3
 v3:=zeroValue3
 t4:=underlying4
 a4:=isAgg4
 z4:=sizeOf4
 v4:=zeroValue4 }
open Go.RowKit in
theorem Tryz.cmp_Compare_int (x y:Int)(w:World) :
 Calls prog 105 #[.int .i64 x,.int .i64 y] w λe w'=>e= .returned (.int .i64 (Lib.compareInt x y))/\w'=w:=Any.cmp_Compare_int Tryz.lays122 x y w
open Go.RowKit in
theorem Tryz.Builder_String_any_k (B b:Nat)(l:List UInt8)(w:World)(h:Lib.IsBuilderF 178 5 B b (Lib.byteCells l) w)(tm:B<=w.heap.size) :
 Calls prog 121 #[.pointer (some ⟨b,0,none⟩)] w λe w'=>e= .returned (.string ⟨l.toArray⟩)/\(Lib.IsBuilderF 178 5 B b (Lib.byteCells l) w'/\Below B w w'/\Lib.OthersKept 5 (some b) w w'):=Any.Builder_String_any_k Tryz.lays169 Tryz.Builder_Extra_169 B b l w h tm
def Tryz.laysM246_ren :Go.Shelf.Ren:=⟨λ|246=>159|283=>175|284=>176|285=>177|286=>178|129=>189|317=>188|318=>190|319=>191|320=>192|337=>207|338=>208|n=>n,λ|2=>2|3=>3|9=>9|4=>4|171=>234|0=>0|53=>235|37=>116|5=>5|173=>238|212=>256|51=>257|20=>20|213=>258|46=>192|232=>280|233=>281|n=>n,λ|17=>1|18=>2|19=>3|n=>n⟩
def Tryz.laysM243_ren :Go.Shelf.Ren:=⟨λ|243=>122|246=>159|283=>175|284=>176|285=>177|286=>178|129=>189|317=>188|318=>190|319=>191|320=>192|337=>207|338=>208|n=>n,λ|3=>3|9=>9|2=>2|4=>4|171=>234|0=>0|53=>235|37=>116|5=>5|173=>238|212=>256|51=>257|20=>20|213=>258|46=>192|232=>280|233=>281|n=>n,λ|17=>1|18=>2|19=>3|n=>n⟩
def Tryz.laysM171_ren :Go.Shelf.Ren:=⟨λ|171=>65|243=>122|246=>159|283=>175|284=>176|285=>177|286=>178|129=>189|317=>188|318=>190|319=>191|320=>192|337=>207|338=>208|n=>n,λ|3=>3|9=>9|2=>2|4=>4|171=>234|0=>0|53=>235|37=>116|5=>5|173=>238|212=>256|51=>257|20=>20|213=>258|46=>192|232=>280|233=>281|n=>n,λ|17=>1|18=>2|19=>3|n=>n⟩
theorem Tryz.laysM171 :Go.Proofs.LaysM.n171 prog Tryz.laysM171_ren:={
 mixed:=by kernel_rfl
 f129:=func189.trans (congrArg some (by kernel_rfl))
 f171:=func65.trans (congrArg some (by kernel_rfl))
 f243:=func122.trans (congrArg some (by kernel_rfl))
 f246:=func159.trans (congrArg some (by kernel_rfl))
 f283:=func175.trans (congrArg some (by kernel_rfl))
 f284:=func176.trans (congrArg some (by kernel_rfl))
 f285:=func177.trans (congrArg some (by kernel_rfl))
 f286:=func178.trans (congrArg some (by kernel_rfl))
 f317:=func188.trans (congrArg some (by kernel_rfl))
 f318:=func190.trans (congrArg some (by kernel_rfl))
 f319:=func191.trans (congrArg some (by kernel_rfl))
 f320:=func192.trans (congrArg some (by kernel_rfl))
 f337:=func207.trans (congrArg some (by kernel_rfl))
 f338:=func208.trans (congrArg some (by kernel_rfl))
 t0:=underlying0
 a0:=isAgg0
 z0:=sizeOf0
 v0:=zeroValue0
 t2:=underlying2
 a2:=isAgg2
 z2:=sizeOf2
 v2:=zeroValue2
 t3:=underlying3
 a3:=isAgg3
 z3:=sizeOf3
 v3:=zeroValue3
 t4:=underlying4
 a4:=isAgg4
 z4:=sizeOf4
 v4:=zeroValue4
 t5:=underlying5
 a5:=isAgg5
 z5:=sizeOf5
 v5:=zeroValue5
 t9:=underlying9
 a9:=isAgg9
 z9:=sizeOf9
 v9:=zeroValue9
 t20:=underlying20
 a20:=isAgg20
 z20:=sizeOf20
 v20:=zeroValue20
 t37:=underlying116
 a37:=isAgg116
 z37:=sizeOf116
 v37:=zeroValue116
 t46:=underlying192
 a46:=isAgg192
 z46:=sizeOf192
 v46:=zeroValue192
 t51:=underlying257
 a51:=isAgg257
 z51:=sizeOf257
 v51:=zeroValue257
 t53:=underlying235
 a53:=isAgg235
 z53:=sizeOf235
 v53:=zeroValue235
 t171:=underlying234
 a171:=isAgg234
 z171:=sizeOf234
 v171:=zeroValue234
 t173:=underlying238
 a173:=isAgg238
 z173:=sizeOf238
 v173:=zeroValue238
 t212:=underlying256
 a212:=isAgg256
 z212:=sizeOf256
 v212:=zeroValue256
 t213:=underlying258
 a213:=isAgg258
 z213:=sizeOf258
 t232:=underlying280
 a232:=isAgg280
 z232:=sizeOf280
 v232:=zeroValue280
 t233:=underlying281
 a233:=isAgg281
 z233:=sizeOf281
 v233:=zeroValue281
 g17:=by kernel_rfl
 g18:=by kernel_rfl
 g19:=by kernel_rfl
 i0:=by kernel_rfl
 i2:=by kernel_rfl
 i3:=by kernel_rfl
 i4:=by kernel_rfl
 i5:=by kernel_rfl
 i9:=by kernel_rfl
 i20:=by kernel_rfl
 i37:=by kernel_rfl
 i46:=by kernel_rfl
 i51:=by kernel_rfl
 i53:=by kernel_rfl
 i171:=by kernel_rfl
 i173:=by kernel_rfl
 i212:=by kernel_rfl
 i232:=by kernel_rfl
 i233:=by kernel_rfl
 m17:=by kernel_rfl
 m18:=by kernel_rfl
 m19:=by kernel_rfl }
open Go.RowKit Go.Sort Go.Lib in
theorem Tryz.strconv_Itoa (n : Int) (h0 : -9223372036854775808 ≤ n) (h1 : n ≤ 9223372036854775807) (w : World) (htab : Lib.TabIs prog w "internal/strconv.uint64pow10" .u64 Lib.pow10Tab) :
 Calls prog 65 #[.int .i64 n] w λe w'=>e= .returned (.string ⟨(Lib.itoa n).toArray⟩)/\∃k os,w'=grow (w.drewN k) os:=Any.strconv_Itoa Tryz.laysM171 n h0 h1 w htab
def Tryz.lays206_ren :Go.Shelf.Ren:=⟨λ|206=>156|n=>n,λ|9=>9|4=>4|3=>3|n=>n,λ|n=>n⟩
def Tryz.lays99_ren :Go.Shelf.Ren:=⟨λ|99=>117|206=>156|n=>n,λ|9=>9|4=>4|3=>3|n=>n,λ|n=>n⟩
theorem Tryz.lays99 :Go.Proofs.Lays.n99 prog Tryz.lays99_ren:={
 mixed:=by kernel_rfl
 f99:=func117.trans (congrArg some (by kernel_rfl))
 f206:=func156.trans (congrArg some (by kernel_rfl))
 t3:=underlying3
 a3:=isAgg3
 z3:=sizeOf3
 v3:=zeroValue3
 t4:=underlying4
 a4:=isAgg4
 z4:=sizeOf4
 v4:=zeroValue4
 t9:=underlying9
 a9:=isAgg9
 z9:=sizeOf9
 v9:=zeroValue9 }
open Go.RowKit Go.Lib in
theorem Tryz.strings_HasPrefix (s p:ByteArray)(w:World) :
 Calls prog 117 #[.string s,.string p] w λe w'=>e= .returned (.bool (Lib.hasPrefix s.data.toList p.data.toList))/\w'=w:=Any.strings_HasPrefix Tryz.lays99 s p w
def Tryz.laysSlH6_f114_ren :Go.Shelf.Ren:=⟨λ|6=>114|n=>n,λ|22=>141|23=>9|25=>175|3=>3|0=>0|4=>4|n=>n,λ|n=>n⟩
theorem Tryz.laysSlH6_f114 :Go.Proofs.SlLaysH.n6 prog Tryz.laysSlH6_f114_ren:={
 mixed:=by kernel_rfl
 f6:=⟨Tryz.f114.name,by decide,func114.trans (congrArg some (by kernel_rfl))⟩
 t0:=underlying0
 a0:=isAgg0
 z0:=sizeOf0
 v0:=zeroValue0
 t3:=underlying3
 a3:=isAgg3
 z3:=sizeOf3
 v3:=zeroValue3
 t4:=underlying4
 a4:=isAgg4
 z4:=sizeOf4
 v4:=zeroValue4
 t22:=underlying141
 a22:=isAgg141
 z22:=sizeOf141
 v22:=zeroValue141
 a23:=isAgg9
 z23:=sizeOf9
 t25:=underlying175
 a25:=isAgg175
 z25:=sizeOf175
 v25:=zeroValue175 }
open Go.RowKit Go.Lib in
theorem Tryz.slices_IndexFunc_f114 {α:Type} [Inhabited α](enc:α->Value)(p:α->Bool)(g:Nat)(lb:Array Value)(eg:∀args w,(callFunc g args).run prog w= .ok (.enter g args) w)(b off n c:Nat)(zs:List α)(w:World)(hp:PredAt prog g lb enc p w)(hz:n<=zs.length)(wY:n<=9223372036854775807)(hc:∀j,j<zs.length->w.cell? ⟨b,off+j,none⟩=some (enc zs[j]!)) :
 Calls prog 114 #[.slice (some ⟨b,off,none⟩) n c,.func (.func g) #[] lb] w λe w'=>e= .returned (.int .i64 (Lib.idxBy (λ_ y=>p y) (zs.take n) default))/\∃q,w'=w.drewN q:=AnyE.slices_IndexFunc Tryz.laysSlH6_f114 enc p g lb eg b off n c zs w hp hz wY hc
def Tryz.laysSlH8_f154_ren :Go.Shelf.Ren:=⟨λ|8=>154|6=>172|n=>n,λ|22=>51|23=>3|25=>216|4=>4|3=>3|0=>0|n=>n,λ|n=>n⟩
theorem Tryz.laysSlH8_f154 :Go.Proofs.SlLaysH.n8 prog Tryz.laysSlH8_f154_ren:={
 mixed:=by kernel_rfl
 f6:=⟨Tryz.f172.name,by decide,func172.trans (congrArg some (by kernel_rfl))⟩
 f8:=⟨Tryz.f154.name,by decide,func154.trans (congrArg some (by kernel_rfl))⟩
 t0:=underlying0
 a0:=isAgg0
 z0:=sizeOf0
 v0:=zeroValue0
 t3:=underlying3
 a3:=isAgg3
 z3:=sizeOf3
 v3:=zeroValue3
 t4:=underlying4
 a4:=isAgg4
 z4:=sizeOf4
 v4:=zeroValue4
 t22:=underlying51
 a22:=isAgg51
 z22:=sizeOf51
 v22:=zeroValue51
 a23:=isAgg3
 z23:=sizeOf3
 t25:=underlying216
 a25:=isAgg216
 z25:=sizeOf216
 v25:=zeroValue216 }
open Go.RowKit Go.Lib in
theorem Tryz.slices_ContainsFunc {α:Type} [Inhabited α](enc:α->Value)(p:α->Bool)(g:Nat)(lb:Array Value)(eg:∀args w,(callFunc g args).run prog w= .ok (.enter g args) w)(b off n c:Nat)(zs:List α)(w:World)(hp:PredAt prog g lb enc p w)(hz:n<=zs.length)(wY:n<=9223372036854775807)(hc:∀j,j<zs.length->w.cell? ⟨b,off+j,none⟩=some (enc zs[j]!)) :
 Calls prog 154 #[.slice (some ⟨b,off,none⟩) n c,.func (.func g) #[] lb] w λe w'=>e= .returned (.bool ((zs.take n).any p))/\∃q,w'=w.drewN q:=AnyE.slices_ContainsFunc Tryz.laysSlH8_f154 enc p g lb eg b off n c zs w hp hz wY hc
def Tryz.pointsContains_ren :Go.Shelf.Ren:=⟨λ|8=>80|6=>138|n=>n,λ|22=>147|23=>26|25=>112|4=>4|3=>3|0=>0|n=>n,λ|n=>n⟩
theorem Tryz.pointsContains :Go.Proofs.SlLaysH0.n8 prog Tryz.pointsContains_ren:={
 mixed:=by kernel_rfl
 f6:=⟨Tryz.f138.name,by decide,func138.trans (congrArg some (by kernel_rfl))⟩
 f8:=⟨Tryz.f80.name,by decide,func80.trans (congrArg some (by kernel_rfl))⟩
 t0:=underlying0
 a0:=isAgg0
 z0:=sizeOf0
 v0:=zeroValue0
 t3:=underlying3
 a3:=isAgg3
 z3:=sizeOf3
 v3:=zeroValue3
 t4:=underlying4
 a4:=isAgg4
 z4:=sizeOf4
 v4:=zeroValue4
 t22:=underlying147
 a22:=isAgg147
 z22:=sizeOf147
 v22:=zeroValue147
 t25:=underlying112
 a25:=isAgg112
 z25:=sizeOf112
 v25:=zeroValue112 }
def Tryz.dotsIndex_ren :Go.Shelf.Ren:=⟨λ|6=>45|n=>n,λ|22=>41|23=>54|25=>100|3=>3|0=>0|4=>4|n=>n,λ|n=>n⟩
theorem Tryz.dotsIndex :Go.Proofs.SlLaysH0.n6 prog Tryz.dotsIndex_ren:={
 mixed:=by kernel_rfl
 f6:=⟨Tryz.f45.name,by decide,func45.trans (congrArg some (by kernel_rfl))⟩
 t0:=underlying0
 a0:=isAgg0
 z0:=sizeOf0
 v0:=zeroValue0
 t3:=underlying3
 a3:=isAgg3
 z3:=sizeOf3
 v3:=zeroValue3
 t4:=underlying4
 a4:=isAgg4
 z4:=sizeOf4
 v4:=zeroValue4
 t22:=underlying41
 a22:=isAgg41
 z22:=sizeOf41
 v22:=zeroValue41
 t25:=underlying100
 a25:=isAgg100
 z25:=sizeOf100
 v25:=zeroValue100 }
def Tryz.leftIndex_ren :Go.Shelf.Ren:=⟨λ|6=>152|n=>n,λ|22=>43|23=>68|25=>218|3=>3|0=>0|4=>4|n=>n,λ|n=>n⟩
theorem Tryz.leftIndex :Go.Proofs.SlLaysH0.n6 prog Tryz.leftIndex_ren:={
 mixed:=by kernel_rfl
 f6:=⟨Tryz.f152.name,by decide,func152.trans (congrArg some (by kernel_rfl))⟩
 t0:=underlying0
 a0:=isAgg0
 z0:=sizeOf0
 v0:=zeroValue0
 t3:=underlying3
 a3:=isAgg3
 z3:=sizeOf3
 v3:=zeroValue3
 t4:=underlying4
 a4:=isAgg4
 z4:=sizeOf4
 v4:=zeroValue4
 t22:=underlying43
 a22:=isAgg43
 z22:=sizeOf43
 v22:=zeroValue43
 t25:=underlying218
 a25:=isAgg218
 z25:=sizeOf218
 v25:=zeroValue218 }
def Tryz.clonePl_ren :Go.Shelf.Ren:=⟨λ|41=>101|n=>n,λ|22=>35|23=>66|4=>4|n=>n,λ|n=>n⟩
theorem Tryz.clonePl :Go.Proofs.SlLaysE0.n41 prog Tryz.clonePl_ren:={
 mixed:=by kernel_rfl
 f41:=⟨Tryz.f101.name,by decide,func101.trans (congrArg some (by kernel_rfl))⟩
 t4:=underlying4
 a4:=isAgg4
 z4:=sizeOf4
 v4:=zeroValue4
 t22:=underlying35
 a22:=isAgg35
 z22:=sizeOf35
 v22:=zeroValue35 }
def Tryz.cloneDt_ren :Go.Shelf.Ren:=⟨λ|41=>109|n=>n,λ|22=>41|23=>54|4=>4|n=>n,λ|n=>n⟩
theorem Tryz.cloneDt :Go.Proofs.SlLaysE0.n41 prog Tryz.cloneDt_ren:={
 mixed:=by kernel_rfl
 f41:=⟨Tryz.f109.name,by decide,func109.trans (congrArg some (by kernel_rfl))⟩
 t4:=underlying4
 a4:=isAgg4
 z4:=sizeOf4
 v4:=zeroValue4
 t22:=underlying41
 a22:=isAgg41
 z22:=sizeOf41
 v22:=zeroValue41 }
def Tryz.equalDt_ren :Go.Shelf.Ren:=⟨λ|8=>56|n=>n,λ|22=>41|24=>54|4=>4|3=>3|0=>0|n=>n,λ|n=>n⟩
theorem Tryz.equalDt :Go.Proofs.SlLaysQ.n8 prog Tryz.equalDt_ren:={
 mixed:=by kernel_rfl
 f8:=⟨Tryz.f56.name,by decide,func56.trans (congrArg some (by kernel_rfl))⟩
 t0:=underlying0
 a0:=isAgg0
 z0:=sizeOf0
 v0:=zeroValue0
 t3:=underlying3
 a3:=isAgg3
 z3:=sizeOf3
 v3:=zeroValue3
 t4:=underlying4
 a4:=isAgg4
 z4:=sizeOf4
 v4:=zeroValue4
 t22:=underlying41
 a22:=isAgg41
 z22:=sizeOf41
 v22:=zeroValue41 }
def Tryz.equalKe_ren :Go.Shelf.Ren:=⟨λ|8=>57|n=>n,λ|22=>42|24=>82|4=>4|3=>3|0=>0|n=>n,λ|n=>n⟩
theorem Tryz.equalKe :Go.Proofs.SlLaysQ.n8 prog Tryz.equalKe_ren:={
 mixed:=by kernel_rfl
 f8:=⟨Tryz.f57.name,by decide,func57.trans (congrArg some (by kernel_rfl))⟩
 t0:=underlying0
 a0:=isAgg0
 z0:=sizeOf0
 v0:=zeroValue0
 t3:=underlying3
 a3:=isAgg3
 z3:=sizeOf3
 v3:=zeroValue3
 t4:=underlying4
 a4:=isAgg4
 z4:=sizeOf4
 v4:=zeroValue4
 t22:=underlying42
 a22:=isAgg42
 z22:=sizeOf42
 v22:=zeroValue42 }
def Tryz.equalLf_ren :Go.Shelf.Ren:=⟨λ|8=>58|n=>n,λ|22=>43|24=>68|4=>4|3=>3|0=>0|n=>n,λ|n=>n⟩
theorem Tryz.equalLf :Go.Proofs.SlLaysQ.n8 prog Tryz.equalLf_ren:={
 mixed:=by kernel_rfl
 f8:=⟨Tryz.f58.name,by decide,func58.trans (congrArg some (by kernel_rfl))⟩
 t0:=underlying0
 a0:=isAgg0
 z0:=sizeOf0
 v0:=zeroValue0
 t3:=underlying3
 a3:=isAgg3
 z3:=sizeOf3
 v3:=zeroValue3
 t4:=underlying4
 a4:=isAgg4
 z4:=sizeOf4
 v4:=zeroValue4
 t22:=underlying43
 a22:=isAgg43
 z22:=sizeOf43
 v22:=zeroValue43 }
end
end Go.Proofs

/-
  Parts.
-/
import Derived.Test.YtfocdbjceedagaaGreatDoorCas
set_option linter.unusedVariables false
set_option linter.unusedSimpArgs false
set_option maxHeartbeats 60000000
set_option maxRecDepth 100000
namespace Go.Proofs.YtfocdbjceedagaaGreatDoor
open Tryz
section
open Go Go.RowKit Go.Shelf
theorem odd10_anyK5.zQ {P:Prop}(h:P:=by
  have z9:WD.frozen? ⟨wb,wo+p*8,none⟩=false:=(au 0 .int rfl (.int .i64 0) (CT.ok_int jM)).2;have hX:=λu hu=>(au 0 .int rfl u hu).1
  clear au;go_upto_region 21 with fail;refine zR7 λp=> ?_
  go_wp2_with fail;go_meet;exact⟨_,_,_,_,_,_,_,_,_,⟨(hX _ (CT.ok_int (by first|exact a1c _|exact a2o _|exact⟨oM,oM⟩))).up (Go.below_growBy _ _),hO.oe,hO.of,hO.ow⟩,OddR.refl _ _ _ _⟩):P:=h
theorem odd10_anyK5.zCase {P:Prop}(h:P:=by exact zP2):P:=h
open odd10_anyK5 in
theorem c1a :a1d 5:=a1g
theorem odd10_anyK6.zQ {P:Prop}(h:P:=by
  have z9:WD.frozen? ⟨wb,wo+p*8+7,none⟩=false:=(au 7 .int rfl (.int .i64 0) (CT.ok_int jM)).2;have hX:=λu hu=>(au 7 .int rfl u hu).1
  clear au;go_upto_region 24 with fail;refine zR3 λp=> ?_
  go_wp2_with fail;go_meet;exact⟨_,_,_,_,_,_,_,_,_,⟨(hX _ (CT.ok_int (by first|exact a1c _|exact a2o _|exact⟨oM,oM⟩))).up (Go.below_growBy _ _),hO.oe,hO.of,hO.ow⟩,OddR.refl _ _ _ _⟩):P:=h
theorem odd10_anyK6.zCase {P:Prop}(h:P:=by exact zP2):P:=h
open odd10_anyK6 in
theorem c1b :a1d 6:=a1g
theorem odd10_anyK7.zQ {P:Prop}(h:P:=by
  have z9:WD.frozen? ⟨wb,wo+p*8+2,none⟩=false:=(au 2 .int rfl (.int .i64 0) (CT.ok_int jM)).2;have hX:=λu hu=>(au 2 .int rfl u hu).1
  clear au;go_upto_region 27 with fail;first|with_reducible refine a0h 10 zM zM ?_|with_reducible refine a0i 10 zM zM ?_
  simp only[zT];repeat(first|go_big_quiet_step (fail)|quiet_step (fail))
  refine wpQuiet_nil ?_;intro _ bh;obtain⟨p,bh⟩:=bh;subst bh;go_wp2_with fail;go_meet;exact⟨_,_,_,_,_,_,_,_,_,⟨(hX _ (CT.ok_int (by first|exact a1c _|exact a2o _|exact⟨oM,oM⟩))).up (Go.below_growBy _ _),hO.oe,hO.of,hO.ow⟩,OddR.refl _ _ _ _⟩):P:=h
theorem odd10_anyK7.zCase {P:Prop}(h:P:=by exact zP2):P:=h
open odd10_anyK7 in
theorem c1c :a1d 7:=a1g
end
end Go.Proofs.YtfocdbjceedagaaGreatDoor

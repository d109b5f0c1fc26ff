/-
  Parts.
-/
import Derived.Test.YteijfnkidefekaaGreatEau
set_option linter.unusedVariables false
set_option linter.unusedSimpArgs false
set_option linter.unusedSectionVars false
set_option maxHeartbeats 60000000
set_option maxRecDepth 100000
namespace Go.Proofs.YteijfnkidefekaaGreat
open Tryz
section
open Go Go.RowKit Go.Shelf
theorem odd10_anyK2.zQ {P:Prop}(h:P:=by
  obtain⟨s,hs,vr⟩:=a4s n xM;have z9:WD.frozen? ⟨fb,fo+p*5+2,none⟩=false:=(ai 2 .str rfl (.string ⟨#[]⟩) (CT.ok_str jM)).2;have hX:=λu hu=>(ai 2 .str rfl u hu).1
  clear ai;go_upto_region 12 with fail;refine c9o λp=> ?_
  go_wp2_with fail;go_meet;exact⟨_,_,_,_,_,_,_,_,_,⟨(hX _ (CT.ok_str hs)).up (Go.below_growBy _ _),hO.oe,hO.of,hO.ow⟩,OddR.refl _ _ _ _⟩):P:=h
theorem odd10_anyK2.zCase {P:Prop}(h:P:=by exact zP1):P:=h
open odd10_anyK2 in
theorem b3m :a0z 2:=a1c
theorem odd10_anyK3.zQ {P:Prop}(h:P:=by
  obtain⟨z,hz,fz⟩:∃z,IntKind.i64.wrap ((n:Int)*6)=z/\a0l z:=⟨_,rfl,a2a _⟩;have z9:WD.frozen? ⟨fb,fo+p*5+3,none⟩=false:=(ai 3 .int rfl (.int .i64 0) (CT.ok_int jM)).2;have hX:=λu hu=>(ai 3 .int rfl u hu).1
  clear ai;go_upto_region 15 with fail;refine c5h λp=> ?_
  go_wp2_with fail;go_meet;exact⟨_,_,_,_,_,_,_,_,_,⟨(hX _ (CT.ok_int (by first|exact fz|exact a1a _|exact a2a _))).up (Go.below_growBy _ _),hO.oe,hO.of,hO.ow⟩,OddR.refl _ _ _ _⟩):P:=h
theorem odd10_anyK3.zCase {P:Prop}(h:P:=by exact zP1):P:=h
open odd10_anyK3 in
theorem b3n :a0z 3:=a1c
theorem odd10_anyK4.zQ {P:Prop}(h:P:=by
  have z9:WD.frozen? ⟨fb,fo+p*5+4,none⟩=false:=(ai 4 .int rfl (.int .i64 0) (CT.ok_int jM)).2;have hX:=λu hu=>(ai 4 .int rfl u hu).1
  clear ai;go_upto_region 18 with fail;refine c5h λp=> ?_
  go_wp2_with fail;go_meet;exact⟨_,_,_,_,_,_,_,_,_,⟨(hX _ (CT.ok_int (by first|exact a1a _|exact a2a _|exact⟨xM,xM⟩))).up (Go.below_growBy _ _),hO.oe,hO.of,hO.ow⟩,OddR.refl _ _ _ _⟩):P:=h
theorem odd10_anyK4.zCase {P:Prop}(h:P:=by exact zP1):P:=h
open odd10_anyK4 in
theorem b3o :a0z 4:=a1c
theorem odd10_anyK5.zQ {P:Prop}(h:P:=by
  have z9:WD.frozen? ⟨wb,wo+p*8,none⟩=false:=(ai 0 .int rfl (.int .i64 0) (CT.ok_int jM)).2;have hX:=λu hu=>(ai 0 .int rfl u hu).1
  clear ai;go_upto_region 21 with fail;first|with_reducible refine a0k 8 zM zM ?_|with_reducible refine a0m 8 zM zM ?_
  simp only[zT];repeat(first|go_big_quiet_step (fail)|quiet_step (fail))
  refine wpQuiet_nil ?_;intro _ bI;obtain⟨p,bI⟩:=bI;subst bI;go_wp2_with fail;go_meet;exact⟨_,_,_,_,_,_,_,_,_,⟨(hX _ (CT.ok_int (by first|exact a1a _|exact a2a _|exact⟨xM,xM⟩))).up (Go.below_growBy _ _),hO.oe,hO.of,hO.ow⟩,OddR.refl _ _ _ _⟩):P:=h
theorem odd10_anyK5.zCase {P:Prop}(h:P:=by exact zP2):P:=h
open odd10_anyK5 in
theorem b3p :a0z 5:=a1c
end
end Go.Proofs.YteijfnkidefekaaGreat

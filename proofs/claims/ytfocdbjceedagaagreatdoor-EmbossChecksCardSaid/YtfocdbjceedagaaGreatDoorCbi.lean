/-
  Parts.
-/
import Derived.Test.YtfocdbjceedagaaGreatDoorCas
set_option linter.unusedVariables false
set_option linter.unusedSimpArgs false
set_option maxHeartbeats 60000000
set_option maxRecDepth 100000
namespace Go.Proofs.YtfocdbjceedagaaGreatDoor
open Tryz
section
open Go Go.RowKit Go.Shelf
theorem odd10_anyK8.zCase {P:Prop}(h:P:=by
 by_cases qa:nw=0
 ·subst qa
  exact ybh
 obtain⟨ix,hp,Ce⟩:=zIx k (show 0<nw by omega);obtain⟨jS,Ls,GZ⟩:=zI (show ix<nw by omega);obtain⟨wb,wo,Ob,heq,G0,-⟩:=hO.p.b.s2.some_ oM
 cases heq;have gC:IntKind.i64.wrap ((ix:Int)+1)=(ix:Int)+1:=a0j oM oM;have ot:(ix:Int)+1<=(nw:Int):=oM;have Ao:((ix:Int)+1).toNat=ix+1:=oM;have D8:(ix:Int)<=(jv:Int):=oM;go_upto_region 30 with fail;refine zR8 λp=> ?_
 have eR:=hO.p.up (Go.below_growBy WD p);refine eR.append_l (n:=ix) (m:=nw-(ix+1)) qM _ _ 34 qM underlying34 a5p qM (eR.b.s2.take oM) (Own.sliceG hO.ow ix) qM ?hx oM ?_
 case hx =>
  go_simp;by_cases h9:jv=ix+1
  ·rw[if_pos h9]
   exact SL.drop rfl eR.b.s2 oM (.inr ⟨h9.symm,rfl⟩)
  ·rw[if_neg h9]
   exact SL.drop rfl eR.b.s2 oM (.inl rfl)
 intro e9 S' W' oW bW;obtain⟨a9,c9,rfl,-⟩:=oW.b.s0.form;have d2:=oW.b.b0.cell 2;have z2:=oW.b.b0.frozen 2;have hQ:=oW.put (i:=2) (v:= .slice a9 (ix+(nw-(ix+1))) c9) rfl rfl;go_wp2_with fail
 all_goals go_meet
 all_goals exact⟨S',_,_,_,_,ne,nf,ix+(nw-(ix+1)),l,⟨hQ.sub vM,hO.oe,hO.of,bW⟩,⟨oM,oM,oM,oM,oM,λh=>h,λh=>h⟩⟩):P:=h
open odd10_anyK8 in
theorem c1d :a1d 8:=a1g
end
end Go.Proofs.YtfocdbjceedagaaGreatDoor

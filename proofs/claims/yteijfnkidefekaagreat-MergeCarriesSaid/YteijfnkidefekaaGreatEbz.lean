/-
  Parts.
-/
import Derived.Test.YteijfnkidefekaaGreatEau
set_option linter.unusedVariables false
set_option linter.unusedSimpArgs false
set_option linter.unusedSectionVars false
set_option maxHeartbeats 60000000
set_option maxRecDepth 100000
namespace Go.Proofs.YteijfnkidefekaaGreat
open Tryz
section
open Go Go.RowKit Go.Shelf
theorem odd10_anyK12.zQ {P:Prop}(h:P:=by
  obtain⟨y,hy⟩:=zE (l[ix]);obtain⟨s,hs,vr⟩:=a4s n xM;have hR:OddR ne nf nw l ne nf nw (l.set ix { y with nm:=s }):=OddR.set bY (λh=>by rw[hy]at h;exact⟨h.id,h.x,h.y,h.wt,show s.size<=1000 from by omega⟩) (λh=>by rw[hy]at h;exact h);obtain⟨c5,z5⟩:=hO.p.cellP xM bY (i:=4) xM;rw[hy]at c5;replace c5:WD.cell? ⟨g,ix*7+4,none⟩=some _:=c5;have hX:=hO.p.setRow bY (i:=4) (y:={ y with nm:=s }) (u:=(.string s)) xM (by rw[hy];rfl);rw[hm]at b3 hX;replace hm:=Lib.hid hm;clear gW hy xd;go_upto_region 42 with fail;refine c9o λp=> ?_
  go_wp2_with fail;go_meet;exact⟨_,_,_,_,_,_,_,_,_,⟨hX.up (Go.below_growBy _ _),hO.oe,hO.of,hO.ow⟩,hR⟩):P:=h
theorem odd10_anyK12.zCase {P:Prop}(h:P:=by exact zP0):P:=h
open odd10_anyK12 in
theorem b1c :a0z 12:=a1c
theorem odd10_anyK13.zQ {P:Prop}(h:P:=by
  have mV:IntKind.i64.wrap ((ix:Int)+1)=(ix:Int)+1:=a0p xM xM;have mW:(ix:Int)+1<=(m:Int):=xM;have vK:((ix:Int)+1).toNat=ix+1:=xM;have IP:(ix:Int)<=(iP:Int):=xM;have hR:OddR ne nf nw l ne nf nw (l.take ix++l.drop (ix+1)):=OddR.del bY;have eK:(l.take ix).length=ix:=by rw[List.length_take];omega
  rw[hm]at b3;replace hm:=Lib.hid hm;clear gW xd;go_upto_region 45 with fail;refine c9q λp=> ?_
  have kn:=hO.p.up (Go.below_growBy WD p);have hL:=a0g a2n kn.row xM;have hF:=c4a kn.row;have hT:=c1s (k:=ix+1) hL hF xM;rw[hm.out]at hT;have e1:Option.map (λx=>Addr.add x ((ix+1)*plE.s)) (some (⟨g,0,none⟩:Addr))=some ⟨g,(ix+1)*7,none⟩:=by simp[Addr.add,plE]
  rw[e1]at hT;refine El.joinO (n0:=(WD.growBy p).heap.size) a2n b9t qM _ _ qM w.heap.size qM (l.take ix) (c3z kn.row xM) ⟨_,_,by rw[eK]⟩ (l.drop (ix+1)) qM ?hx ?hf (by rw[List.length_take,List.length_drop];omega) kn.b.size ?_
  case hx=>go_simp;have h9:=hT.1;rw[World.size_growBy]at h9;exact h9
  case hf=>go_simp;have h9:=hT.2;rw[List.length_drop]at h9;exact h9
  rintro v9 w9 bG aU⟨g9,c9,rfl⟩ kJ;obtain⟨l2,dC⟩:=zE (l.take ix++l.drop (ix+1));rw[dC]at bG hR;simp only[dC];have cV:=kn.more bG aU kJ;have d3:=cV.b.b0.cell 3;have z3:=cV.b.b0.frozen 3;have hQ:=cV.put (i:=3) (v:= .slice (some ⟨g9,0,none⟩) l2.length c9) rfl rfl;go_wp2_with fail
  all_goals go_meet
  all_goals exact⟨_,_,_,_,_,_,_,_,_,⟨hQ,hO.oe,hO.of,hO.ow⟩,hR⟩):P:=h
theorem odd10_anyK13.zCase {P:Prop}(h:P:=by exact zP0):P:=h
open odd10_anyK13 in
theorem b1d :a0z 13:=a1c
end
end Go.Proofs.YteijfnkidefekaaGreat

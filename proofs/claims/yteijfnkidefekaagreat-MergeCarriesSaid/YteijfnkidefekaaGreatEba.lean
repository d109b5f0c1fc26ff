/-
  Parts.
-/
import Derived.Test.YteijfnkidefekaaGreatEau
set_option linter.unusedVariables false
set_option linter.unusedSimpArgs false
set_option linter.unusedSectionVars false
set_option maxHeartbeats 60000000
set_option maxRecDepth 100000
namespace Go.Proofs.YteijfnkidefekaaGreat
open Tryz
section
open Go Go.RowKit Go.Shelf
theorem odd10_anyK10.zQ {P:Prop}(h:P:=by
  obtain⟨y,hy⟩:=zE (l[ix]);obtain⟨X,rQ,fX⟩:∃X:Int,wrap64 (wrap64 (y.x+(n:Int))-30)=X/\a0l X:=⟨_,rfl,a1a _⟩;obtain⟨Y,wg,fY⟩:∃Y:Int,wrap64 (wrap64 (y.y+(k:Int))-30)=Y/\a0l Y:=⟨_,rfl,a1a _⟩;have hR:OddR ne nf nw l ne nf nw (l.set ix { y with x:=X,y:=Y }):=OddR.set bY (λh=>by rw[hy]at h;exact⟨h.id,fX,fY,h.wt,h.nm⟩) (λh=>by rw[hy]at h;exact h);obtain⟨c1,z1⟩:=hO.p.cellP xM bY (i:=1) xM;obtain⟨c2,z2⟩:=hO.p.cellP xM bY (i:=2) xM;rw[hy]at c1 c2;replace c1:WD.cell? ⟨g,ix*7+1,none⟩=some (.int .i64 y.x):=c1;replace c2:WD.cell? ⟨g,ix*7+2,none⟩=some (.int .i64 y.y):=c2;have hX:=hO.p.setRow2 bY (i:=1) (j:=2) (y1:={ y with x:=X }) (y:={ y with x:=X,y:=Y }) (u:= .int .i64 X) (v:= .int .i64 Y) xM xM (by rw[hy];rfl) rfl;rw[hm]at b3 hX;replace hm:=Lib.hid hm;clear gW hy xd;go_upto_region 35 with fail;refine c9n λp=> ?_
  go_upto_region 36 with fail;refine c9r λp=> ?_
  go_wp2_with fail;go_meet;subst rQ wg;exact⟨_,_,_,_,_,_,_,_,_,⟨hX.up (Go.below_growBy _ _),hO.oe,hO.of,hO.ow⟩,hR⟩):P:=h
theorem odd10_anyK10.zCase {P:Prop}(h:P:=by exact zP0):P:=h
open odd10_anyK10 in
theorem b1a :a0z 10:=a1c
theorem odd10_anyK11.zQ {P:Prop}(h:P:=by
  obtain⟨y,hy⟩:=zE (l[ix]);obtain⟨q,hq⟩:∃q:Int,Int.tmod (n:Int) 18=q:=⟨_,rfl⟩;have hR:OddR ne nf nw l ne nf nw (l.set ix { y with ds:=q }):=OddR.set bY (λh=>by rw[hy]at h;exact⟨h.id,h.x,h.y,h.wt,h.nm⟩) (λh=>by rw[hy]at h;exact h);obtain⟨c5,z5⟩:=hO.p.cellP xM bY (i:=6) xM;rw[hy]at c5;replace c5:WD.cell? ⟨g,ix*7+6,none⟩=some _:=c5;have hX:=hO.p.setRow bY (i:=6) (y:={ y with ds:=q }) (u:=(.int .i64 q)) xM (by rw[hy];rfl);rw[hm]at b3 hX;replace hm:=Lib.hid hm;clear gW hy xd;go_upto_region 39 with fail;refine c5h λp=> ?_
  go_wp2_with fail;go_meet;subst hq;exact⟨_,_,_,_,_,_,_,_,_,⟨hX.up (Go.below_growBy _ _),hO.oe,hO.of,hO.ow⟩,hR⟩):P:=h
theorem odd10_anyK11.zCase {P:Prop}(h:P:=by exact zP0):P:=h
open odd10_anyK11 in
theorem b1b :a0z 11:=a1c
end
end Go.Proofs.YteijfnkidefekaaGreat

/-
  Parts.
-/
import Derived.Test.YteijfnkidefekaaGreatEat
set_option linter.unusedVariables false
set_option linter.unusedSimpArgs false
set_option linter.unusedSectionVars false
set_option maxHeartbeats 60000000
set_option maxRecDepth 100000
namespace Go.Proofs.YteijfnkidefekaaGreat
open Tryz
section
open Go Go.RowKit Go.Shelf
theorem odd7_anyK3.zCase {P:Prop}(h:P:=by
 have hX:=ai 2 .int rfl (.int .i64 rr) (CT.ok_int f3);have hY:=(hX.1.store a1u hX.1.s0 hO.oe j 3 .int rfl (.int .i64 ll) (CT.ok_int f2));clear ai hT fF fG;go_upto_region 22 with fail;clear hk ab p9 nV IN gq;go_region;go_wp2_with fail;go_meet;exact⟨S9,k,nf,⟨hY.1.drew,hO.oe,hO.of⟩,xM,xM⟩):P:=h
open odd7_anyK3 in
theorem b5j :a1m 3:=a1t
theorem odd7_anyK4.zQ {P:Prop}(h:P:=by
  have pB:∀v,a0l v->_:=λv fv=>hO.b.store a1l aC (a4i aC hO.b.o.lows) p 0 .int rfl (.int .i64 v) (CT.ok_int fv)
  have y0:W9.frozen? ⟨pb,po+p*2,none⟩=false:=(pB 0 jM).2;go_upto_region 25 with fail;clear ai hT fF fG hk ab p9 nV;first|with_reducible refine a0k 29 zM zM ?_|with_reducible refine a0m 29 zM zM ?_
  simp only[zT];repeat(first|go_big_quiet_step (fail)|quiet_step (fail))
  refine wpQuiet_nil ?_;intro _ bI;obtain⟨p,bI⟩:=bI;subst bI;go_wp2_with fail;go_meet;exact⟨S9,k,nf,⟨(pB _ (a1a _)).1.up (Go.below_growBy _ _),hO.oe,hO.of⟩,xM,xM⟩):P:=h
theorem odd7_anyK4.zCase {P:Prop}(h:P:=by exact zP3):P:=h
open odd7_anyK4 in
theorem b5k :a1m 4:=a1t
theorem odd7_anyK5.zQ {P:Prop}(h:P:=by
  have hq:=hO.b.add aC;have pB:∀v u,a0l v->a0l u->OY noB w S9 ((W9.setCell ⟨pb,po+p*2,none⟩ (.int .i64 v)).setCell ⟨pb,po+p*2+1,none⟩ (.int .i64 u)) [(BQ,#[.int .i64 q0,.int .i64 q1,.int .i64 q2],119)] [(71,.slice (some ⟨eb,eo,none⟩) k gz,k),(43,.slice f10 nf vY,nf)]:=λv u fv fu=>by
   have h1:=(hq.store a1l hq.s0 (a4i aC hO.b.o.lows) p 0 .int rfl (.int .i64 v) (CT.ok_int fv)).1;exact(h1.store a1l h1.s0 (a4i aC hO.b.o.lows) p 1 .int rfl (.int .i64 u) (CT.ok_int fu)).1.tailT
  have y0:W9.frozen? ⟨pb,po+p*2,none⟩=false:=(hq.store a1l hq.s0 (a4i aC hO.b.o.lows) p 0 .int rfl (.int .i64 0) rN).2;have y1:W9.frozen? ⟨pb,po+p*2+1,none⟩=false:=(hq.store a1l hq.s0 (a4i aC hO.b.o.lows) p 1 .int rfl (.int .i64 0) rN).2;obtain⟨z,hz,fz⟩:∃z,IntKind.i64.wrap (16384+Int.tmod (n:Int) 2)=z/\a0l z:=⟨_,rfl,a2a _⟩;have bn:IntKind.i64.wrap (16384+(n:Int) % 2)=z:=by rw[<-hz,Int.tmod_eq_emod_of_nonneg xM]
  go_upto_region 28 with fail;clear ai hT fF fG hk ab p9 nV;first|with_reducible refine a0k 16 zM zM ?_|with_reducible refine a0m 16 zM zM ?_
  simp only[zT];repeat(first|go_big_quiet_step (fail)|quiet_step (fail))
  refine wpQuiet_nil ?_;intro _ bI;obtain⟨p,bI⟩:=bI;subst bI;go_wp2_with fail;go_meet;exact⟨S9,k,nf,⟨(pB _ _ fz (show a0l (n:Int)from⟨xM,xM⟩)).up (Go.below_growBy _ _),hO.oe,hO.of⟩,xM,xM⟩):P:=h
theorem odd7_anyK5.zCase {P:Prop}(h:P:=by exact zP3):P:=h
open odd7_anyK5 in
theorem b5l :a1m 5:=a1t
theorem odd7_anyK6.zCase {P:Prop}(h:P:=by
 obtain⟨p,hp,mr⟩:∃p:Nat,min (n:Int) (m:Int)=(p:Int)/\p<=m:=⟨min n m,xM,xM⟩;have vS:min n m=p:=xM;have pZ:(p:Int)<=(lc:Int):=xM;have hX:=(ai 1 (.sl 41) rfl (.slice la p lc) (CT.ok_sl (aC.take mr) xM)).1;have z1:W9.frozen? ⟨eb,eo+j*4+1,none⟩=false:=(ai 1 (.sl 41) rfl (.slice la p lc) (CT.ok_sl (aC.take mr) xM)).2;go_upto_region 30 with fail;clear ai hT fF fG hk ab p9 nV;first|with_reducible refine a0k 13 zM zM ?_|with_reducible refine a0m 13 zM zM ?_
 simp only[zT];repeat(first|go_big_quiet_step (fail)|quiet_step (fail))
 refine wpQuiet_nil ?_;intro _ bI;obtain⟨p,bI⟩:=bI;subst bI;go_wp2_with fail;go_meet;exact⟨S9,k,nf,⟨hX.up (Go.below_growBy _ _),hO.oe,hO.of⟩,xM,xM⟩):P:=h
open odd7_anyK6 in
theorem b5m :a1m 6:=a1t
end
end Go.Proofs.YteijfnkidefekaaGreat

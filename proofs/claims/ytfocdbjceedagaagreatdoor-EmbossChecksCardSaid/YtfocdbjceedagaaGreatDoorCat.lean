/-
  Parts.
-/
import Derived.Test.YtfocdbjceedagaaGreatDoorCas
set_option linter.unusedVariables false
set_option linter.unusedSimpArgs false
set_option maxHeartbeats 60000000
set_option maxRecDepth 100000
namespace Go.Proofs.YtfocdbjceedagaaGreatDoor
open Tryz
section
open Go Go.RowKit Go.Shelf
theorem odd7_anyK0.zCase {P:Prop}(h:P:=by
 have aE:IntKind.i64.wrap ((n:Int)-1)=(n:Int)-1:=a0j oM oM;have hX:=(au 0 .int rfl (.int .i64 ((n:Int)-1)) (CT.ok_int ⟨oM,oM⟩)).1;go_wp2_with fail;go_meet;exact⟨S9,k,nf,⟨hX,hO.oe,hO.of⟩,oM,oM⟩):P:=h
open odd7_anyK0 in
theorem c4e :a2a 0:=a2f
theorem odd7_anyK1.zCase {P:Prop}(h:P:=by
 have hX:=(au 2 .int rfl (.int .i64 (n:Int)) (CT.ok_int ⟨oM,oM⟩)).1;go_wp2_with fail;go_meet;exact⟨S9,k,nf,⟨hX,hO.oe,hO.of⟩,oM,oM⟩):P:=h
open odd7_anyK1 in
theorem c4f :a2a 1:=a2f
theorem odd7_anyK2.zCase {P:Prop}(h:P:=by
 obtain⟨p,hp,FO⟩:∃p:Nat,Int.tmod (n:Int) 4=(p:Int)/\p<4:=⟨n % 4,by rw[Int.tmod_eq_emod_of_nonneg oM];omega,oM⟩;have jS:(p:Int)<4:=oM;have kT:=Blk.new W9 #[.int .i64 0,.int .i64 21,.int .i64 22,.int .i64 28] 3;obtain⟨v,cv,fv⟩:∃v,(W9.alloc (.cells #[.int .i64 0,.int .i64 21,.int .i64 22,.int .i64 28] 3)).cell? ⟨W9.heap.size,p,none⟩=some (.int .i64 v)/\fits v:=by
  match p,FO with
  |0,_=>exact⟨_,kT.cell 0,jM⟩
  |1,_=>exact⟨_,kT.cell 1,jM⟩
  |2,_=>exact⟨_,kT.cell 2,jM⟩
  |3,_=>exact⟨_,kT.cell 3,jM⟩
 have hY:=(au 3 .int rfl (.int .i64 v) (CT.ok_int fv)).1;have hX:=hY.up ((zR _ _).alloc (yR _) (.cells #[.int .i64 0,.int .i64 21,.int .i64 22,.int .i64 28] 3));clear kT;go_wp2_with fail;go_meet;exact⟨S9,k,nf,⟨hX,hO.oe,hO.of⟩,oM,oM⟩):P:=h
open odd7_anyK2 in
theorem c4g :a2a 2:=a2f
theorem odd7_anyK3.zCase {P:Prop}(h:P:=by
 have hX:=au 2 .int rfl (.int .i64 rr) (CT.ok_int f3);have hY:=(hX.1.store a2g hX.1.s0 hO.oe j 3 .int rfl (.int .i64 ll) (CT.ok_int f2));clear au hT iu iw;go_upto_region 22 with fail;clear hk ag iB ru Ah nY;go_region;go_wp2_with fail;go_meet;exact⟨S9,k,nf,⟨hY.1.drew,hO.oe,hO.of⟩,oM,oM⟩):P:=h
open odd7_anyK3 in
theorem c4h :a2a 3:=a2f
theorem odd7_anyK4.zQ {P:Prop}(h:P:=by
  have dY:∀v,fits v->_:=λv fv=>hO.b.store a1z aJ (a6y aJ hO.b.o.lows) p 0 .int rfl (.int .i64 v) (CT.ok_int fv)
  have y0:W9.frozen? ⟨pb,po+p*2,none⟩=false:=(dY 0 jM).2;go_upto_region 25 with fail;clear au hT iu iw hk ag iB ru;first|with_reducible refine a0h 29 zM zM ?_|with_reducible refine a0i 29 zM zM ?_
  simp only[zT];repeat(first|go_big_quiet_step (fail)|quiet_step (fail))
  refine wpQuiet_nil ?_;intro _ bh;obtain⟨p,bh⟩:=bh;subst bh;go_wp2_with fail;go_meet;exact⟨S9,k,nf,⟨(dY _ (a1c _)).1.up (Go.below_growBy _ _),hO.oe,hO.of⟩,oM,oM⟩):P:=h
theorem odd7_anyK4.zCase {P:Prop}(h:P:=by exact zP3):P:=h
open odd7_anyK4 in
theorem c4i :a2a 4:=a2f
theorem odd7_anyK5.zQ {P:Prop}(h:P:=by
  have hq:=hO.b.add aJ;have dY:∀v u,fits v->fits u->OY noB w S9 ((W9.setCell ⟨pb,po+p*2,none⟩ (.int .i64 v)).setCell ⟨pb,po+p*2+1,none⟩ (.int .i64 u)) [(BQ,#[.int .i64 q0,.int .i64 q1,.int .i64 q2],23)] [(206,.slice (some ⟨eb,eo,none⟩) k je,k),(140,.slice f10 nf AO,nf)]:=λv u fv fu=>by
   have h1:=(hq.store a1z hq.s0 (a6y aJ hO.b.o.lows) p 0 .int rfl (.int .i64 v) (CT.ok_int fv)).1;exact(h1.store a1z h1.s0 (a6y aJ hO.b.o.lows) p 1 .int rfl (.int .i64 u) (CT.ok_int fu)).1.tailT
  have y0:W9.frozen? ⟨pb,po+p*2,none⟩=false:=(hq.store a1z hq.s0 (a6y aJ hO.b.o.lows) p 0 .int rfl (.int .i64 0) nu).2;have y1:W9.frozen? ⟨pb,po+p*2+1,none⟩=false:=(hq.store a1z hq.s0 (a6y aJ hO.b.o.lows) p 1 .int rfl (.int .i64 0) nu).2;obtain⟨z,hz,fz⟩:∃z,IntKind.i64.wrap (16384+Int.tmod (n:Int) 2)=z/\fits z:=⟨_,rfl,a2o _⟩;have bF:IntKind.i64.wrap (16384+(n:Int) % 2)=z:=by rw[<-hz,Int.tmod_eq_emod_of_nonneg oM]
  go_upto_region 28 with fail;clear au hT iu iw hk ag iB ru;first|with_reducible refine a0h 16 zM zM ?_|with_reducible refine a0i 16 zM zM ?_
  simp only[zT];repeat(first|go_big_quiet_step (fail)|quiet_step (fail))
  refine wpQuiet_nil ?_;intro _ bh;obtain⟨p,bh⟩:=bh;subst bh;go_wp2_with fail;go_meet;exact⟨S9,k,nf,⟨(dY _ _ fz (show fits (n:Int)from⟨oM,oM⟩)).up (Go.below_growBy _ _),hO.oe,hO.of⟩,oM,oM⟩):P:=h
theorem odd7_anyK5.zCase {P:Prop}(h:P:=by exact zP3):P:=h
open odd7_anyK5 in
theorem c4j :a2a 5:=a2f
end
end Go.Proofs.YtfocdbjceedagaaGreatDoor

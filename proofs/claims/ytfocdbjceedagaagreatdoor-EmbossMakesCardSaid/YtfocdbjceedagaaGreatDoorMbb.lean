/-
  Parts.
-/
import Derived.Test.YtfocdbjceedagaaGreatDoorMba
set_option linter.unusedVariables false
set_option linter.unusedSimpArgs false
set_option maxHeartbeats 60000000
set_option maxRecDepth 100000
namespace Go.Proofs.YtfocdbjceedagaaGreatDoor
open Tryz
section
open Go Go.RowKit Go.Shelf
attribute [local go_sem] Oper.semAt_some
attribute [local go_sem ↓] Go.wp_at_zero Go.wp_at_succ
theorem odd7_anyK0.zCase {P:Prop}(h:P:=by
 have hw1:IntKind.i64.wrap ((n:Int)-1)=(n:Int)-1:=a0k oM oM;have hX:=(hst 0 .int rfl (.int .i64 ((n:Int)-1)) (CT.ok_int ⟨oM,oM⟩)).1;go_wp2_with fail;go_meet;exact⟨S9,k,nf,⟨hX,hO.oe,hO.of⟩,oM,oM⟩):P:=h
open odd7_anyK0 in
theorem c3h :a1t 0:=a1x
theorem odd7_anyK1.zCase {P:Prop}(h:P:=by
 have hX:=(hst 2 .int rfl (.int .i64 (n:Int)) (CT.ok_int ⟨oM,oM⟩)).1;go_wp2_with fail;go_meet;exact⟨S9,k,nf,⟨hX,hO.oe,hO.of⟩,oM,oM⟩):P:=h
open odd7_anyK1 in
theorem c3i :a1t 1:=a1x
theorem odd7_anyK2.zCase {P:Prop}(h:P:=by
 obtain⟨p,hp,hp4⟩:∃p:Nat,Int.tmod (n:Int) 4=(p:Int)/\p<4:=⟨n % 4,by rw[Int.tmod_eq_emod_of_nonneg oM];omega,oM⟩;have hpI:(p:Int)<4:=oM;have kT:=Blk.new W9 #[.int .i64 0,.int .i64 21,.int .i64 22,.int .i64 28] 3;obtain⟨v,cv,fv⟩:∃v,(W9.alloc (.cells #[.int .i64 0,.int .i64 21,.int .i64 22,.int .i64 28] 3)).cell? ⟨W9.heap.size,p,none⟩=some (.int .i64 v)/\fits v:=by
  match p,hp4 with
  |0,_=>exact⟨_,kT.cell 0,jM⟩
  |1,_=>exact⟨_,kT.cell 1,jM⟩
  |2,_=>exact⟨_,kT.cell 2,jM⟩
  |3,_=>exact⟨_,kT.cell 3,jM⟩
 have hY:=(hst 3 .int rfl (.int .i64 v) (CT.ok_int fv)).1;have hX:=hY.up ((zR _ _).alloc (yR _) (.cells #[.int .i64 0,.int .i64 21,.int .i64 22,.int .i64 28] 3));clear kT;go_wp2_with fail;go_meet;exact⟨S9,k,nf,⟨hX,hO.oe,hO.of⟩,oM,oM⟩):P:=h
open odd7_anyK2 in
theorem c3j :a1t 2:=a1x
theorem odd7_anyK3.zCase {P:Prop}(h:P:=by
 have hX:=hst 2 .int rfl (.int .i64 rr) (CT.ok_int f3);have hY:=(hX.1.store a1y hX.1.s0 hO.oe j 3 .int rfl (.int .i64 ll) (CT.ok_int f2));clear hst hT hve hvf;go_upto_region 22 with fail;clear hk hlt hk0 hk0b hjI hjk;go_region;go_wp2_with fail;go_meet;exact⟨S9,k,nf,⟨hY.1.drew,hO.oe,hO.of⟩,oM,oM⟩):P:=h
open odd7_anyK3 in
theorem c3k :a1t 3:=a1x
theorem odd7_anyK4.zCase {P:Prop}(h:P:=by
 by_cases hm0:m=0
 ·subst hm0
  go_wp2_with fail;go_meet;exact⟨S9,k,nf,hO,oM,oM⟩
 have hmI:(0:Int)<(m:Int):=oM;have hmI2:((m:Int)==0)=false:=by simpa using hm0
 obtain⟨p,hp,hpm⟩:∃p:Nat,Int.tmod (n:Int) (m:Int)=(p:Int)/\p<m:=⟨n % m,by rw[Int.tmod_eq_emod_of_nonneg oM];omega,Nat.mod_lt _ oM⟩;have hpI:(p:Int)<(m:Int):=oM;obtain⟨pb,po,pc,heq,hpc,-⟩:=hlv.some_ oM
 cases heq;obtain⟨x,y,d0,d1,fx,fy⟩:=SL.point hO.b.tw hlv hpm;have hpo:∀v,fits v->_:=λv fv=>hO.b.store a1s hlv (a6o hlv hO.b.o.lows) p 0 .int rfl (.int .i64 v) (CT.ok_int fv)
 have y0:W9.frozen? ⟨pb,po+p*2,none⟩=false:=(hpo 0 jM).2;go_upto_region 25 with fail;clear hst hT hve hvf hk hlt hk0 hk0b;first|with_reducible refine a0f 29 zM zM ?_|with_reducible refine a0i 29 zM zM ?_
 simp only[zT];repeat(first|go_big_quiet_step (fail)|quiet_step (fail))
 refine wpQuiet_nil ?_;intro _ hw_;obtain⟨p,hw_⟩:=hw_;subst hw_;go_wp2_with fail;go_meet;exact⟨S9,k,nf,⟨(hpo _ (a1b _)).1.up (Go.below_growBy _ _),hO.oe,hO.of⟩,oM,oM⟩):P:=h
open odd7_anyK4 in
theorem c3l :a1t 4:=a1x
theorem odd7_anyK5.zCase {P:Prop}(h:P:=by
 by_cases hm0:m=0
 ·subst hm0
  go_wp2_with fail;go_meet;exact⟨S9,k,nf,hO,oM,oM⟩
 have hmI:(0:Int)<(m:Int):=oM;have hmI2:((m:Int)==0)=false:=by simpa using hm0
 obtain⟨p,hp,hpm⟩:∃p:Nat,Int.tmod (n:Int) (m:Int)=(p:Int)/\p<m:=⟨n % m,by rw[Int.tmod_eq_emod_of_nonneg oM];omega,Nat.mod_lt _ oM⟩;have hpI:(p:Int)<(m:Int):=oM;obtain⟨pb,po,pc,heq,hpc,-⟩:=hlv.some_ oM
 cases heq;obtain⟨x,y,d0,d1,fx,fy⟩:=SL.point hO.b.tw hlv hpm;have hq:=hO.b.add hlv;have hpo:∀v u,fits v->fits u->OY noB w S9 ((W9.setCell ⟨pb,po+p*2,none⟩ (.int .i64 v)).setCell ⟨pb,po+p*2+1,none⟩ (.int .i64 u)) [(BQ,#[.int .i64 q0,.int .i64 q1,.int .i64 q2],23)] [(206,.slice (some ⟨eb,eo,none⟩) k e1c,k),(140,.slice f10 nf f1c,nf)]:=λv u fv fu=>by
  have h1:=(hq.store a1s hq.s0 (a6o hlv hO.b.o.lows) p 0 .int rfl (.int .i64 v) (CT.ok_int fv)).1;exact(h1.store a1s h1.s0 (a6o hlv hO.b.o.lows) p 1 .int rfl (.int .i64 u) (CT.ok_int fu)).1.tailT
 have y0:W9.frozen? ⟨pb,po+p*2,none⟩=false:=(hq.store a1s hq.s0 (a6o hlv hO.b.o.lows) p 0 .int rfl (.int .i64 0) hI0).2;have y1:W9.frozen? ⟨pb,po+p*2+1,none⟩=false:=(hq.store a1s hq.s0 (a6o hlv hO.b.o.lows) p 1 .int rfl (.int .i64 0) hI0).2;obtain⟨z,hz,fz⟩:∃z,IntKind.i64.wrap (16384+Int.tmod (n:Int) 2)=z/\fits z:=⟨_,rfl,a2d _⟩;have hz2:IntKind.i64.wrap (16384+(n:Int) % 2)=z:=by rw[<-hz,Int.tmod_eq_emod_of_nonneg oM]
 go_upto_region 28 with fail;clear hst hT hve hvf hk hlt hk0 hk0b;first|with_reducible refine a0f 16 zM zM ?_|with_reducible refine a0i 16 zM zM ?_
 simp only[zT];repeat(first|go_big_quiet_step (fail)|quiet_step (fail))
 refine wpQuiet_nil ?_;intro _ hw_;obtain⟨p,hw_⟩:=hw_;subst hw_;go_wp2_with fail;go_meet;exact⟨S9,k,nf,⟨(hpo _ _ fz (show fits (n:Int)from⟨oM,oM⟩)).up (Go.below_growBy _ _),hO.oe,hO.of⟩,oM,oM⟩):P:=h
open odd7_anyK5 in
theorem c3m :a1t 5:=a1x
theorem odd7_anyK6.zCase {P:Prop}(h:P:=by
 obtain⟨p,hp,hpm⟩:∃p:Nat,min (n:Int) (m:Int)=(p:Int)/\p<=m:=⟨min n m,oM,oM⟩;have hp2:min n m=p:=oM;have hpI:(p:Int)<=(lc:Int):=oM;have hX:=(hst 1 (.sl 26) rfl (.slice la p lc) (CT.ok_sl (hlv.take hpm) oM)).1;have z1:W9.frozen? ⟨eb,eo+j*4+1,none⟩=false:=(hst 1 (.sl 26) rfl (.slice la p lc) (CT.ok_sl (hlv.take hpm) oM)).2;go_upto_region 30 with fail;clear hst hT hve hvf hk hlt hk0 hk0b;first|with_reducible refine a0f 13 zM zM ?_|with_reducible refine a0i 13 zM zM ?_
 simp only[zT];repeat(first|go_big_quiet_step (fail)|quiet_step (fail))
 refine wpQuiet_nil ?_;intro _ hw_;obtain⟨p,hw_⟩:=hw_;subst hw_;go_wp2_with fail;go_meet;exact⟨S9,k,nf,⟨hX.up (Go.below_growBy _ _),hO.oe,hO.of⟩,oM,oM⟩):P:=h
open odd7_anyK6 in
theorem c3n :a1t 6:=a1x
end
end Go.Proofs.YtfocdbjceedagaaGreatDoor

/-
  Parts.
-/
import Derived.Test.YteijfnkidefekaaGreatEat
set_option linter.unusedVariables false
set_option linter.unusedSimpArgs false
set_option linter.unusedSectionVars false
set_option maxHeartbeats 60000000
set_option maxRecDepth 100000
namespace Go.Proofs.YteijfnkidefekaaGreat
open Tryz
section
open Go Go.RowKit Go.Shelf
theorem odd7_anyK7.zCase {P:Prop}(h:P:=by
 have mV:IntKind.i64.wrap ((j:Int)+1)=(j:Int)+1:=a0p xM xM;have mW:(j:Int)+1<=(k:Int):=xM;have vK:((j:Int)+1).toNat=j+1:=xM;have IP:(j:Int)<=(gz:Int):=xM;go_upto_region 32 with fail;clear ai hT fF fG hk ab p9 nV;refine c9n λp=> ?_
 have kn:=hO.b.up (Go.below_growBy W9 p);refine kn.append_l (n:=j) (m:=k-(j+1)) qM _ _ 27 qM underlying27 a1u qM (kn.s0.take xM) (hO.oe.slice j) qM ?hx xM ?_
 case hx =>
  go_simp;by_cases h9:gz=j+1
  ·rw[if_pos h9]
   exact SL.drop rfl kn.s0 xM (.inr ⟨h9.symm,rfl⟩)
  ·rw[if_neg h9]
   exact SL.drop rfl kn.s0 xM (.inl rfl)
 intro e9 S' W' lR ep;go_wp2_with fail
 all_goals (go_meet;exact⟨S',j+(k-(j+1)),nf,⟨lR.sub vM,ep,hO.of⟩,xM,xM⟩)):P:=h
open odd7_anyK7 in
theorem b5n :a1m 7:=a1t
theorem odd7_anyK8.zCase {P:Prop}(h:P:=by
 have bg:∀X W',Ev noB S9 W9 X W'->OY noB w X W' _ _:=λX W' h=>hO.b.evo h (h.below hO.b.o.lows (λ_ h=>h.elim) hO.b.size)
 go_wp2_with (first
  |(go_at_call 111;(with_reducible refine(a9n S9 W9 hO.b.tw id ll rr _ m aC hm f0 f2 f3).mono ?_);rintro e WT⟨ST,tv,rfl,tR,Ea⟩;obtain⟨ta,tc,rfl,xQ⟩:=tR.form;have nW:=(bg _ _ Ea).add tR;have x0:=(nW.store a1u nW.s1 hO.oe j 0 .int rfl (.int .i64 id) (CT.ok_int f0));have x1:=(x0.1.store a1u x0.1.s1 hO.oe j 1 (.sl 41) rfl (.slice ta m tc) (CT.ok_sl x0.1.s0 hm));have x2:=(x1.1.store a1u x1.1.s1 hO.oe j 2 .int rfl (.int .i64 rr) (CT.ok_int f3));have x3:=(x2.1.store a1u x2.1.s1 hO.oe j 3 .int rfl (.int .i64 ll) (CT.ok_int f2));obtain⟨Eb,l',r',IQ,m',b0,b1,b2,b3,-⟩:=SL.edge nW.tw nW.s1 gq;have u0:WT.frozen? ⟨eb,eo+j*4,none⟩=false:=x0.2;have u1:=(nW.store a1u nW.s1 hO.oe j 1 (.sl 41) rfl (.slice ta m tc) (CT.ok_sl nW.s0 hm)).2;have u2:=(nW.store a1u nW.s1 hO.oe j 2 .int rfl (.int .i64 rr) (CT.ok_int f3)).2;have u3:=(nW.store a1u nW.s1 hO.oe j 3 .int rfl (.int .i64 ll) (CT.ok_int f2)).2))
 go_meet;exact⟨ST,k,nf,⟨x3.1.tailT,hO.oe,hO.of⟩,xM,xM⟩):P:=h
open odd7_anyK8 in
theorem b5o :a1m 8:=a1t
theorem odd7_anyK9.zCase {P:Prop}(h:P:=by
 obtain⟨p,hp,mr⟩:∃p:Nat,min ((n:Int) % 4) (nf:Int)=(p:Int)/\p<=nf:=⟨min (n % 4) nf,xM,xM⟩;have pZ:(p:Int)<=(vY:Int):=xM;have yg:=hO.b.s1.take mr;go_wp2_with fail;go_meet;exact⟨S9,k,p,⟨((hO.b.add yg).sub vM),hO.oe,hO.of.slice _⟩,xM,xM⟩):P:=h
open odd7_anyK9 in
theorem b5p :a1m 9:=a1t
theorem odd7_anyK10.zCase {P:Prop}(h:P:=by
 have bB:IntKind.i64.wrap ((n:Int)-1)=(n:Int)-1:=a0p xM xM;obtain⟨HS,tq⟩:=zE W9.heap.size;go_wp2_with (first
  |(at_builtin;refine hO.b.append_n qM _ _ 28 qM underlying28 a1f qM hO.b.s1 hO.of qM tq (b7e (id:=(n:Int)-1) ⟨xM,xM⟩) rfl xM ?_;intro e9 S' W' lR ep))
 go_meet;exact⟨S',k,nf+1,⟨lR.sub vM,hO.oe,ep⟩,xM,xM⟩):P:=h
open odd7_anyK10 in
theorem b3g :a1m 10:=a1t
end
end Go.Proofs.YteijfnkidefekaaGreat

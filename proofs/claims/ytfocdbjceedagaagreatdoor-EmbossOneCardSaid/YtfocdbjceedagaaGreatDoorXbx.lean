/-
  The statement 'EmbossOne': the card, closed. It answers true for every argument. Of the tables that the row lists it reads the powers of ten alone.
-/
import Derived.Test.YtfocdbjceedagaaGreatDoorCards
import Derived.Test.YtfocdbjceedagaaGreatDoorTie
import Derived.Test.YtfocdbjceedagaaGreatDoorXbw
import Derived.Deep.DeepHandedRow
import Derived.LaidMore
set_option linter.unusedVariables false
set_option linter.unusedSimpArgs false
set_option maxRecDepth 100000
namespace Go.Proofs.YtfocdbjceedagaaGreatDoor
open _root_.Go.Proofs.Tryz
namespace embossOne
open Go.ChangeShapes Go.WideShapes Go.ChangeAt Go.RowKit
theorem q33_arg {W:World}{r:Reach}{base:Nat}{v:Value}(h:Value.okWide prog W r base 59 v):∃z0 z1 z2 z3 z4 z5 z6 z7 z8,v= .agg (q33 z0 z1 z2 z3 z4 z5 z6 z7 z8):=by
 obtain⟨cs,rfl,hn,ts,hts,-,hcell⟩:=b1y (by kernel_rfl) h;obtain rfl:ts=[3,3,3,3,3,3,3,3,3]:=Option.some.inj (hts.symm.trans (by kernel_rfl));have hn':cs.size=9:=hn.trans (by kernel_rfl);obtain⟨l⟩:=cs;match l,hn',hcell with
 |[c0,c1,c2,c3,c4,c5,c6,c7,c8],_,hcell =>
  obtain⟨u0,k0,g0⟩:=hcell 0 c0 rfl;obtain⟨u1,k1,g1⟩:=hcell 1 c1 rfl;obtain⟨u2,k2,g2⟩:=hcell 2 c2 rfl;obtain⟨u3,k3,g3⟩:=hcell 3 c3 rfl;obtain⟨u4,k4,g4⟩:=hcell 4 c4 rfl;obtain⟨u5,k5,g5⟩:=hcell 5 c5 rfl;obtain⟨u6,k6,g6⟩:=hcell 6 c6 rfl;obtain⟨u7,k7,g7⟩:=hcell 7 c7 rfl;obtain⟨u8,k8,g8⟩:=hcell 8 c8 rfl
  cases k0;cases k1;cases k2;cases k3;cases k4;cases k5;cases k6;cases k7;cases k8;obtain⟨z0,rfl,-⟩:=a1h underlying3 g0;obtain⟨z1,rfl,-⟩:=a1h underlying3 g1;obtain⟨z2,rfl,-⟩:=a1h underlying3 g2;obtain⟨z3,rfl,-⟩:=a1h underlying3 g3;obtain⟨z4,rfl,-⟩:=a1h underlying3 g4;obtain⟨z5,rfl,-⟩:=a1h underlying3 g5;obtain⟨z6,rfl,-⟩:=a1h underlying3 g6;obtain⟨z7,rfl,-⟩:=a1h underlying3 g7;obtain⟨z8,rfl,-⟩:=a1h underlying3 g8;exact⟨z0,z1,z2,z3,z4,z5,z6,z7,z8,rfl⟩
theorem pow_of (W:World)(h:laidMetH prog Rows.embossOneRow.laid W):Pow W:=by
 have h1:laidMet prog Rows.embossOneRow.laid W:=h;exact Lib.tabIs_of_head (rest:=[]) (g:=1) (t:=256) (e:=235) (n:=20) (by kernel_rfl) (by kernel_rfl) (by kernel_rfl) (by kernel_rfl) (by kernel_rfl) (by kernel_rfl) (laidMet.tl (laidMet.tl h1))
theorem own:ownKnob prog.godebug=none:=by kernel_rfl
theorem laidOut:laidOutB prog=true:=by kernel_rfl
theorem walk {H:Type}{enc:TypeId×Value→H}{ds:List (DataW H)}{before:List MemPlace}(W:World)(base:Nat)(args:Array Value)(hval:∀(j:Nat) t v,Tryz.f6.params[j]? =some t→args[j]? =some v→Value.okWide prog W .any base t v)(hsz:args.toList.length=2)(hwh:DataW.Whole enc prog Tryz.f6.params.toList [] false W args.toList ds [] before)(hlm:laidMetH prog Rows.embossOneRow.laid W) :
 Calls prog 6 args W fun e W'=>e= .returned (.bool true)∧Below W.heap.size W W':=by
 obtain⟨v0,v1,rfl⟩:∃v0 v1,args= #[v0,v1]:=by
  match args,hsz with
  |⟨[v0,v1]⟩,_=>exact⟨v0,v1,rfl⟩
 obtain⟨p,q,hA,-⟩:=hwh;obtain⟨rv,rows,q0,q1,q2,b0,b1,b2,b3,raw,rfl,hM,⟨f0,f1,f2⟩,⟨g0,g1,g2,g3⟩,fx,fy⟩:=c9z (hval 0 30 v0 rfl rfl) (b7u hA);obtain⟨la,lcap,rfl,-⟩:=id hM;obtain⟨z0,z1,z2,z3,z4,z5,z6,z7,z8,rfl⟩:=q33_arg (hval 1 59 v1 rfl rfl);exact d2e la lcap rows q0 q1 q2 b0 b1 b2 b3 raw z0 z1 z2 z3 z4 z5 z6 z7 z8 f0 f1 f2 g0 g1 g2 g3 fx fy W hM (pow_of W hlm)
theorem contract (H:Type)(enc:TypeId×Value→H)(W:World)(base:Nat)(args:Array Value)(ds gs:List (DataW H))(before:List MemPlace)
 (hval:∀(j:Nat) t v,Tryz.f6.params[j]? =some t→args[j]? =some v→Value.okWide prog W .any base t v)
 (hW:DataW.Whole enc prog Tryz.f6.params.toList Rows.embossOneSpec.vars false W args.toList ds gs before) (hlm:laidMetH prog Rows.embossOneRow.laid W) :
 Calls prog 6 args W fun e W'=>∃v,e= .returned v∧Rows.embossOneSpec.post enc prog Tryz.f6 false true false false W args v W' :=
 c3d 4 laidOut (by kernel_rfl) rfl rfl underlying4 (fun ds h=>match ds,h with | [_,_],_=>rfl) hW (fun hsz hwh=>walk W base args hval hsz hwh hlm)
theorem laid_met (os:Os):laidMet prog Rows.embossOneRow.laid ((World.doorLaid prog 24 os).forCall (fun _ _=>0) ⟨#[],#[.agg #[.slice none 0 0,.int .i64 0,.int .i64 0,.int .i64 0,.int .u8 0,.int .u8 0,.int .u8 0,.int .u8 0,.int .i64 0,.int .i64 0,.int .i64 0,.int .i64 0,.int .i64 0,.int .i64 0],.agg #[.int .i64 0,.int .i64 0,.int .i64 0,.int .i64 0,.int .i64 0,.int .i64 0,.int .i64 0,.int .i64 0,.int .i64 0]],[]⟩).memory :=
 laidMet_of_run' 8 (by kernel_rfl) (by kernel_rfl)
theorem reads (os:Os){H:Type}(enc:TypeId×Value→H):∃places,DataW.whole enc prog ((World.doorLaid prog 24 os).forCall (fun _ _=>0) ⟨#[],#[.agg #[.slice none 0 0,.int .i64 0,.int .i64 0,.int .i64 0,.int .u8 0,.int .u8 0,.int .u8 0,.int .u8 0,.int .i64 0,.int .i64 0,.int .i64 0,.int .i64 0,.int .i64 0,.int .i64 0],.agg #[.int .i64 0,.int .i64 0,.int .i64 0,.int .i64 0,.int .i64 0,.int .i64 0,.int .i64 0,.int .i64 0,.int .i64 0]],[]⟩).memory Tryz.f6.params.toList Rows.embossOneSpec.vars false #[.agg #[.slice none 0 0,.int .i64 0,.int .i64 0,.int .i64 0,.int .u8 0,.int .u8 0,.int .u8 0,.int .u8 0,.int .i64 0,.int .i64 0,.int .i64 0,.int .i64 0,.int .i64 0,.int .i64 0],.agg #[.int .i64 0,.int .i64 0,.int .i64 0,.int .i64 0,.int .i64 0,.int .i64 0,.int .i64 0,.int .i64 0,.int .i64 0]].toList 8=some ([.agg [.nil,.agg [.lit (.int .i64 0),.lit (.int .i64 0),.lit (.int .i64 0)],.agg [.lit (.int .u8 0),.lit (.int .u8 0),.lit (.int .u8 0),.lit (.int .u8 0)],.agg [.agg [.lit (.int .i64 0),.lit (.int .i64 0)],.lit (.int .i64 0),.lit (.int .i64 0),.lit (.int .i64 0),.lit (.int .i64 0)]],.agg [.agg [.lit (.int .i64 0),.lit (.int .i64 0),.lit (.int .i64 0)],.agg [.lit (.int .i64 0),.lit (.int .i64 0),.lit (.int .i64 0)],.agg [.lit (.int .i64 0),.lit (.int .i64 0),.lit (.int .i64 0)]]],[],places) :=
 ⟨[],by kernel_rfl⟩
theorem lifted (os:Os)(started:os.Started)(H:Type)(enc:TypeId×Value→H)(F:Stop.Interp) :
 ReturnsInHanded {} Tryz.checked os 6 .any ((OpenSpec.ofChange Rows.embossOneSpec).preRow enc prog Tryz.f6 Rows.embossOneRow.domain false Rows.embossOneRow.laid) (((OpenSpec.ofChange Rows.embossOneSpec).at F).post enc prog Tryz.f6 false true false false):=by
 obtain⟨places,hx⟩:=reads os enc;refine returnsInHanded_of_row (C:=Tryz.checked) (s:=OpenSpec.ofChange Rows.embossOneSpec) own started (by kernel_rfl) func6
  (witness_row_at (enc:=enc) (C:=Tryz.checked) false (World.doorLaid prog 24 os) #[.agg #[.slice none 0 0,.int .i64 0,.int .i64 0,.int .i64 0,.int .u8 0,.int .u8 0,.int .u8 0,.int .u8 0,.int .i64 0,.int .i64 0,.int .i64 0,.int .i64 0,.int .i64 0,.int .i64 0],.agg #[.int .i64 0,.int .i64 0,.int .i64 0,.int .i64 0,.int .i64 0,.int .i64 0,.int .i64 0,.int .i64 0,.int .i64 0]] rfl (by kernel_rfl) (by kernel_rfl) (by kernel_rfl)
   (OpenSpec.preRow_of_cond 8 hx (by kernel_rfl) (fun k hk=>by cases hk) (by kernel_rfl) (laid_met os))) ?_
 intro W base args ds gs before hval hW _ _ _ hlm _ _;exact contract H enc W base args ds gs before hval hW hlm
theorem said:Rows.EmbossOneSaid :=
 OpenClaim.holds_of_cond 6 Tryz.f6 rfl rfl rfl rfl rfl rfl rfl ⟨rfl,rfl,rfl,rfl,rfl⟩ rfl rfl rfl rfl rfl (by kernel_rfl) func6 (by kernel_rfl)
  (of_decide_eq_true (by kernel_rfl)) (by unfold Func.isWrapper;first|(rw[if_pos (by decide +kernel)];kernel_rfl)|(rw[if_neg (by decide +kernel)];exact⟨rfl,rfl⟩))
  (fun os started H enc _ F=>by rw[OpenClaim.pre_eq_preRow];exact lifted os started H enc F)
theorem stand (j:Nat)(t:TypeId)(ht:Tryz.f6.params[j]? =some t):prog.wantsStandIn t=false:=by
 have h:(Tryz.f6.params.toList.all fun t=> !prog.wantsStandIn t)=true:=by kernel_rfl
 simpa using List.all_eq_true.1 h t (List.mem_of_getElem? (by simpa using ht))
theorem plain (f : FuncId) (fn : Func) (hf : Tryz.pinned.checked.prog.funcNamed "hachure/hachurelaw30.EmbossOne" = some f) (hfn : Tryz.pinned.checked.prog.funcs[f]? = some fn) :
 true=Tryz.pinned.checked.prog.looks []∧∀(j:Nat) t,fn.params[j]? =some t→Tryz.pinned.checked.prog.wantsStandIn t=false:=by
 obtain rfl : f = 6 := Option.some.inj ((show prog.funcNamed "hachure/hachurelaw30.EmbossOne" = some 6 by kernel_rfl).symm.trans hf) |>.symm
 obtain rfl:fn=Tryz.f6:=(Option.some.inj (func6.symm.trans hfn)).symm;exact⟨by kernel_rfl,fun j t ht=>stand j t ht⟩
theorem proved:Rows.EmbossOneCardSaid :=
 Claim7.holds_tied_plain_at .later [] _ _ _ _ said (fun _ h=>by cases h) (by kernel_rfl) (fun _ h=>by cases h) embossOne_row_tie rfl ⟨rfl,rfl⟩ (by kernel_rfl) rfl plain (by kernel_rfl)
#print axioms proved
end embossOne
end Go.Proofs.YtfocdbjceedagaaGreatDoor

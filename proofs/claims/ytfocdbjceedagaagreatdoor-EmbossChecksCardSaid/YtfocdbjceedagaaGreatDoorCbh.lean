/-
  The statement 'EmbossChecks': the card, closed. It answers true for every argument. Of the tables that the row lists it reads the powers of ten alone.
-/
import Derived.Test.YtfocdbjceedagaaGreatDoorCards
import Derived.Test.YtfocdbjceedagaaGreatDoorTie
import Derived.Test.YtfocdbjceedagaaGreatDoorCbg
set_option linter.unusedVariables false
set_option linter.unusedSimpArgs false
set_option maxRecDepth 100000
namespace Go.Proofs.YtfocdbjceedagaaGreatDoor
open _root_.Go.Proofs.Tryz
namespace embossChecks
open Go.ChangeShapes Go.WideShapes Go.ChangeAt Go.RowKit
theorem q33_arg {W:Wd}{r:Reach}{base:Nat}{v:Vu}(h:Value.okWide prog W r base 59 v):∃z0 z1 z2 z3 z4 z5 z6 z7 z8,v= .agg (q33 z0 z1 z2 z3 z4 z5 z6 z7 z8):=by
 obtain⟨cs,rfl,hn,ts,vA,-,ao⟩:=b4l zM h;obtain rfl:ts=[3,3,3,3,3,3,3,3,3]:=Option.some.inj (vA.symm.trans zM);have wV:cs.size=9:=hn.trans zM;obtain⟨l⟩:=cs;match l,wV,ao with
 |[c0,c1,c2,c3,c4,c5,c6,c7,c8],_,ao =>
  obtain⟨u0,k0,g0⟩:=ao 0 c0 rfl;obtain⟨u1,k1,g1⟩:=ao 1 c1 rfl;obtain⟨u2,k2,g2⟩:=ao 2 c2 rfl;obtain⟨u3,k3,g3⟩:=ao 3 c3 rfl;obtain⟨u4,k4,g4⟩:=ao 4 c4 rfl;obtain⟨u5,k5,g5⟩:=ao 5 c5 rfl;obtain⟨u6,k6,g6⟩:=ao 6 c6 rfl;obtain⟨u7,k7,g7⟩:=ao 7 c7 rfl;obtain⟨u8,k8,g8⟩:=ao 8 c8 rfl
  cases k0;cases k1;cases k2;cases k3;cases k4;cases k5;cases k6;cases k7;cases k8;obtain⟨z0,rfl,-⟩:=a1e underlying3 g0;obtain⟨z1,rfl,-⟩:=a1e underlying3 g1;obtain⟨z2,rfl,-⟩:=a1e underlying3 g2;obtain⟨z3,rfl,-⟩:=a1e underlying3 g3;obtain⟨z4,rfl,-⟩:=a1e underlying3 g4;obtain⟨z5,rfl,-⟩:=a1e underlying3 g5;obtain⟨z6,rfl,-⟩:=a1e underlying3 g6;obtain⟨z7,rfl,-⟩:=a1e underlying3 g7;obtain⟨z8,rfl,-⟩:=a1e underlying3 g8;exact⟨z0,z1,z2,z3,z4,z5,z6,z7,z8,rfl⟩
theorem pow_of (W:Wd)(h:laidMetH prog Rows.embossChecksRow.laid W):Pow W:=by
 have h1:laidMet prog Rows.embossChecksRow.laid W:=h;exact Lib.tabIs_of_head (rest:=[]) (g:=1) (t:=256) (e:=235) (n:=20) zM zM zM zM zM zM (laidMet.tl (laidMet.tl h1))
theorem own :ownKnob prog.godebug=none:=by kernel_rfl
theorem laidOut :laidOutB prog=true:=by kernel_rfl
theorem walk {H:Type}{enc:TypeId×Value->H}{ds:List (DataW H)}{before:List MemPlace}(W:Wd)(base:Nat)(args:Array Value)(gU:∀(j:Nat) t v,Tryz.f4.params[j]? =some t->args[j]? =some v->Value.okWide prog W .any base t v)(bu:args.toList.length=2)(Lc:DataW.Whole enc prog Tryz.f4.params.toList [] false W args.toList ds [] before)(zo:laidMetH prog Rows.embossChecksRow.laid W) :
 Calls prog 4 args W λe W'=>e= .returned (.bool true)/\Below W.heap.size W W':=by
 obtain⟨v0,v1,rfl⟩:∃v0 v1,args= #[v0,v1]:=by
  match args,bu with
  |⟨[v0,v1]⟩,_=>exact⟨v0,v1,rfl⟩
 obtain⟨p,q,hA,-⟩:=Lc;obtain⟨rv,rows,q0,q1,q2,b0,b1,b2,b3,raw,rfl,hM,⟨f0,f1,f2⟩,⟨g0,g1,g2,g3⟩,fx,fy⟩:=d7a (gU 0 30 v0 rfl rfl) (c1p hA);obtain⟨la,ar,rfl,-⟩:=id hM;obtain⟨z0,z1,z2,z3,z4,z5,z6,z7,z8,rfl⟩:=q33_arg (gU 1 59 v1 rfl rfl);exact c8s la ar rows q0 q1 q2 b0 b1 b2 b3 raw z0 z1 z2 z3 z4 z5 z6 z7 z8 f0 f1 f2 g0 g1 g2 g3 fx fy W hM (pow_of W zo)
theorem contract (H:Type)(enc:TypeId×Value->H)(W:Wd)(base:Nat)(args:Array Value)(ds gs:List (DataW H))(before:List MemPlace)
 (gU:∀(j:Nat) t v,Tryz.f4.params[j]? =some t->args[j]? =some v->Value.okWide prog W .any base t v)
 (hW:DataW.Whole enc prog Tryz.f4.params.toList Rows.embossChecksSpec.vars false W args.toList ds gs before) (zo:laidMetH prog Rows.embossChecksRow.laid W) :
 Calls prog 4 args W λe W'=>∃v,e= .returned v/\Rows.embossChecksSpec.post enc prog Tryz.f4 false true false false W args v W' :=
 c8w 4 laidOut zM rfl rfl underlying4 (λds h=>match ds,h with | [_,_],_=>rfl) hW (λbu Lc=>walk W base args gU bu Lc zo)
theorem laid_met (os:Os):laidMet prog Rows.embossChecksRow.laid ((World.doorLaid prog 24 os).forCall (λ_ _=>0) ⟨#[],#[.agg #[.slice none 0 0,.int .i64 0,.int .i64 0,.int .i64 0,.int .u8 0,.int .u8 0,.int .u8 0,.int .u8 0,.int .i64 0,.int .i64 0,.int .i64 0,.int .i64 0,.int .i64 0,.int .i64 0],.agg #[.int .i64 0,.int .i64 0,.int .i64 0,.int .i64 0,.int .i64 0,.int .i64 0,.int .i64 0,.int .i64 0,.int .i64 0]],[]⟩).memory :=
 laidMet_of_run' 8 zM zM
theorem reads (os:Os){H:Type}(enc:TypeId×Value->H):∃places,DataW.whole enc prog ((World.doorLaid prog 24 os).forCall (λ_ _=>0) ⟨#[],#[.agg #[.slice none 0 0,.int .i64 0,.int .i64 0,.int .i64 0,.int .u8 0,.int .u8 0,.int .u8 0,.int .u8 0,.int .i64 0,.int .i64 0,.int .i64 0,.int .i64 0,.int .i64 0,.int .i64 0],.agg #[.int .i64 0,.int .i64 0,.int .i64 0,.int .i64 0,.int .i64 0,.int .i64 0,.int .i64 0,.int .i64 0,.int .i64 0]],[]⟩).memory Tryz.f4.params.toList Rows.embossChecksSpec.vars false #[.agg #[.slice none 0 0,.int .i64 0,.int .i64 0,.int .i64 0,.int .u8 0,.int .u8 0,.int .u8 0,.int .u8 0,.int .i64 0,.int .i64 0,.int .i64 0,.int .i64 0,.int .i64 0,.int .i64 0],.agg #[.int .i64 0,.int .i64 0,.int .i64 0,.int .i64 0,.int .i64 0,.int .i64 0,.int .i64 0,.int .i64 0,.int .i64 0]].toList 8=some ([.agg [.nil,.agg [.lit (.int .i64 0),.lit (.int .i64 0),.lit (.int .i64 0)],.agg [.lit (.int .u8 0),.lit (.int .u8 0),.lit (.int .u8 0),.lit (.int .u8 0)],.agg [.agg [.lit (.int .i64 0),.lit (.int .i64 0)],.lit (.int .i64 0),.lit (.int .i64 0),.lit (.int .i64 0),.lit (.int .i64 0)]],.agg [.agg [.lit (.int .i64 0),.lit (.int .i64 0),.lit (.int .i64 0)],.agg [.lit (.int .i64 0),.lit (.int .i64 0),.lit (.int .i64 0)],.agg [.lit (.int .i64 0),.lit (.int .i64 0),.lit (.int .i64 0)]]],[],places) :=
 ⟨[],by kernel_rfl⟩
theorem lifted (os:Os)(started:os.Started)(H:Type)(enc:TypeId×Value->H)(F:Stop.Interp) :
 ReturnsInHanded {} Tryz.checked os 4 .any ((OpenSpec.ofChange Rows.embossChecksSpec).preRow enc prog Tryz.f4 Rows.embossChecksRow.domain false Rows.embossChecksRow.laid) (((OpenSpec.ofChange Rows.embossChecksSpec).at F).post enc prog Tryz.f4 false true false false):=by
 obtain⟨places,hx⟩:=reads os enc;refine returnsInHanded_of_row (C:=Tryz.checked) (s:=OpenSpec.ofChange Rows.embossChecksSpec) own started zM func4
  (witness_row_at (enc:=enc) (C:=Tryz.checked) false (World.doorLaid prog 24 os) #[.agg #[.slice none 0 0,.int .i64 0,.int .i64 0,.int .i64 0,.int .u8 0,.int .u8 0,.int .u8 0,.int .u8 0,.int .i64 0,.int .i64 0,.int .i64 0,.int .i64 0,.int .i64 0,.int .i64 0],.agg #[.int .i64 0,.int .i64 0,.int .i64 0,.int .i64 0,.int .i64 0,.int .i64 0,.int .i64 0,.int .i64 0,.int .i64 0]] rfl zM zM zM
   (OpenSpec.preRow_of_cond 8 hx zM (λk hk=>by cases hk) zM (laid_met os))) ?_
 intro W base args ds gs before gU hW _ _ _ zo _ _;exact contract H enc W base args ds gs before gU hW zo
theorem said :Rows.EmbossChecksSaid :=
 OpenClaim.holds_of_cond 4 Tryz.f4 rfl rfl rfl rfl rfl rfl rfl ⟨rfl,rfl,rfl,rfl,rfl⟩ rfl rfl rfl rfl rfl zM func4 zM
  (of_decide_eq_true zM) (by unfold Func.isWrapper;first|(rw[if_pos (by decide +kernel)];kernel_rfl)|(rw[if_neg (by decide +kernel)];exact⟨rfl,rfl⟩))
  (λos started H enc _ F=>by rw[OpenClaim.pre_eq_preRow];exact lifted os started H enc F)
theorem stand (j:Nat)(t:Td)(ht:Tryz.f4.params[j]? =some t):prog.wantsStandIn t=false:=by
 have h:(Tryz.f4.params.toList.all λt=> !prog.wantsStandIn t)=true:=by kernel_rfl
 simpa using List.all_eq_true.1 h t (List.mem_of_getElem? (by simpa using ht))
theorem plain (f : FuncId) (fn : Func) (hf : Tryz.pinned.checked.prog.funcNamed "hachure/hachurelaw30.EmbossChecks" = some f) (hfn : Tryz.pinned.checked.prog.funcs[f]? = some fn) :
 true=Tryz.pinned.checked.prog.looks []/\∀(j:Nat) t,fn.params[j]? =some t->Tryz.pinned.checked.prog.wantsStandIn t=false:=by
 obtain rfl : f = 4 := Option.some.inj ((show prog.funcNamed "hachure/hachurelaw30.EmbossChecks" = some 4 by kernel_rfl).symm.trans hf) |>.symm
 obtain rfl:fn=Tryz.f4:=(Option.some.inj (func4.symm.trans hfn)).symm;exact⟨by kernel_rfl,λj t ht=>stand j t ht⟩
theorem proved :Rows.EmbossChecksCardSaid :=
 Claim7.holds_tied_plain_at .later [] _ _ _ _ said (λ_ h=>by cases h) zM (λ_ h=>by cases h) embossChecks_row_tie rfl ⟨rfl,rfl⟩ zM rfl plain zM
#print axioms proved
end embossChecks
end Go.Proofs.YtfocdbjceedagaaGreatDoor

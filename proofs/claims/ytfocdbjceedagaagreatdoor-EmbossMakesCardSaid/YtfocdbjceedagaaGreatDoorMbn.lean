/-
  The statement 'EmbossMakes': the card, closed. It answers true for every argument. Of the tables that the row lists it reads the powers of ten alone.
-/
import Derived.Test.YtfocdbjceedagaaGreatDoorCards
import Derived.Test.YtfocdbjceedagaaGreatDoorTie
import Derived.Test.YtfocdbjceedagaaGreatDoorMbm
set_option linter.unusedVariables false
set_option linter.unusedSimpArgs false
set_option maxRecDepth 100000
namespace Go.Proofs.YtfocdbjceedagaaGreatDoor
open _root_.Go.Proofs.Tryz
namespace embossMakes
open Go.ChangeShapes Go.WideShapes Go.ChangeAt Go.RowKit
theorem pow_of (W:World)(h:laidMetH prog Rows.embossMakesRow.laid W):Pow W:=by
 have h1:laidMet prog Rows.embossMakesRow.laid W:=h;exact Lib.tabIs_of_head (rest:=[]) (g:=1) (t:=256) (e:=235) (n:=20) zM zM zM zM zM zM (laidMet.tl (laidMet.tl h1))
theorem own :ownKnob prog.godebug=none:=by kernel_rfl
theorem laidOut :laidOutB prog=true:=by kernel_rfl
theorem walk {H:Type}{enc:TypeId×Value->H}{ds:List (DataW H)}{before:List MemPlace}(W:World)(base:Nat)(args:Array Value)(hval:∀(j:Nat) t v,Tryz.f3.params[j]? =some t->args[j]? =some v->Value.okWide prog W .any base t v)(hsz:args.toList.length=3)(hwh:DataW.Whole enc prog Tryz.f3.params.toList [] false W args.toList ds [] before)(hlm:laidMetH prog Rows.embossMakesRow.laid W) :
 Calls prog 3 args W λe W'=>e= .returned (.bool true)/\Below W.heap.size W W':=by
 obtain⟨v0,v1,v2,rfl⟩:∃v0 v1 v2,args= #[v0,v1,v2]:=by
  match args,hsz with
  |⟨[v0,v1,v2]⟩,_=>exact⟨v0,v1,v2,rfl⟩
 obtain⟨p,q,hA,-⟩:=hwh;obtain⟨rv,rows,q0,q1,q2,b0,b1,b2,b3,raw,rfl,hM,⟨f0,f1,f2⟩,⟨g0,g1,g2,g3⟩,fx,fy⟩:=d5a (hval 0 30 v0 rfl rfl) (c0s hA);obtain⟨la,lcap,rfl,-⟩:=id hM;obtain⟨ix,rfl,hix⟩:=a7g underlying3 (hval 1 3 v1 rfl rfl);obtain⟨iy,rfl,hiy⟩:=a7g underlying3 (hval 2 3 v2 rfl rfl);exact d1g la lcap rows q0 q1 q2 b0 b1 b2 b3 raw ix iy f0 f1 f2 g0 g1 g2 g3 fx fy (by obtain⟨h1,h2⟩:=hix;exact⟨h1,h2⟩) (by obtain⟨h1,h2⟩:=hiy;exact⟨h1,h2⟩) W hM (pow_of W hlm)
theorem contract (H:Type)(enc:TypeId×Value->H)(W:World)(base:Nat)(args:Array Value)(ds gs:List (DataW H))(before:List MemPlace)
 (hval:∀(j:Nat) t v,Tryz.f3.params[j]? =some t->args[j]? =some v->Value.okWide prog W .any base t v)
 (hW:DataW.Whole enc prog Tryz.f3.params.toList Rows.embossMakesSpec.vars false W args.toList ds gs before) (hlm:laidMetH prog Rows.embossMakesRow.laid W) :
 Calls prog 3 args W λe W'=>∃v,e= .returned v/\Rows.embossMakesSpec.post enc prog Tryz.f3 false true false false W args v W' :=
 c7r 4 laidOut zM rfl rfl underlying4 (λds h=>match ds,h with | [_,_,_],_=>rfl) hW (λhsz hwh=>walk W base args hval hsz hwh hlm)
theorem laid_met (os:Os):laidMet prog Rows.embossMakesRow.laid ((World.doorLaid prog 24 os).forCall (λ_ _=>0) ⟨#[],#[.agg #[.slice none 0 0,.int .i64 0,.int .i64 0,.int .i64 0,.int .u8 0,.int .u8 0,.int .u8 0,.int .u8 0,.int .i64 0,.int .i64 0,.int .i64 0,.int .i64 0,.int .i64 0,.int .i64 0],.int .i64 0,.int .i64 0],[]⟩).memory :=
 laidMet_of_run' 8 zM zM
theorem reads (os:Os){H:Type}(enc:TypeId×Value->H):∃places,DataW.whole enc prog ((World.doorLaid prog 24 os).forCall (λ_ _=>0) ⟨#[],#[.agg #[.slice none 0 0,.int .i64 0,.int .i64 0,.int .i64 0,.int .u8 0,.int .u8 0,.int .u8 0,.int .u8 0,.int .i64 0,.int .i64 0,.int .i64 0,.int .i64 0,.int .i64 0,.int .i64 0],.int .i64 0,.int .i64 0],[]⟩).memory Tryz.f3.params.toList Rows.embossMakesSpec.vars false #[.agg #[.slice none 0 0,.int .i64 0,.int .i64 0,.int .i64 0,.int .u8 0,.int .u8 0,.int .u8 0,.int .u8 0,.int .i64 0,.int .i64 0,.int .i64 0,.int .i64 0,.int .i64 0,.int .i64 0],.int .i64 0,.int .i64 0].toList 8=some ([.agg [.nil,.agg [.lit (.int .i64 0),.lit (.int .i64 0),.lit (.int .i64 0)],.agg [.lit (.int .u8 0),.lit (.int .u8 0),.lit (.int .u8 0),.lit (.int .u8 0)],.agg [.agg [.lit (.int .i64 0),.lit (.int .i64 0)],.lit (.int .i64 0),.lit (.int .i64 0),.lit (.int .i64 0),.lit (.int .i64 0)]],.lit (.int .i64 0),.lit (.int .i64 0)],[],places) :=
 ⟨[],by kernel_rfl⟩
theorem lifted (os:Os)(started:os.Started)(H:Type)(enc:TypeId×Value->H)(F:Stop.Interp) :
 ReturnsInHanded {} Tryz.checked os 3 .any ((OpenSpec.ofChange Rows.embossMakesSpec).preRow enc prog Tryz.f3 Rows.embossMakesRow.domain false Rows.embossMakesRow.laid) (((OpenSpec.ofChange Rows.embossMakesSpec).at F).post enc prog Tryz.f3 false true false false):=by
 obtain⟨places,hx⟩:=reads os enc;refine returnsInHanded_of_row (C:=Tryz.checked) (s:=OpenSpec.ofChange Rows.embossMakesSpec) own started zM func3
  (witness_row_at (enc:=enc) (C:=Tryz.checked) false (World.doorLaid prog 24 os) #[.agg #[.slice none 0 0,.int .i64 0,.int .i64 0,.int .i64 0,.int .u8 0,.int .u8 0,.int .u8 0,.int .u8 0,.int .i64 0,.int .i64 0,.int .i64 0,.int .i64 0,.int .i64 0,.int .i64 0],.int .i64 0,.int .i64 0] rfl zM zM zM
   (OpenSpec.preRow_of_cond 8 hx zM (λk hk=>by cases hk) zM (laid_met os))) ?_
 intro W base args ds gs before hval hW _ _ _ hlm _ _;exact contract H enc W base args ds gs before hval hW hlm
theorem said :Rows.EmbossMakesSaid :=
 OpenClaim.holds_of_cond 3 Tryz.f3 rfl rfl rfl rfl rfl rfl rfl ⟨rfl,rfl,rfl,rfl,rfl⟩ rfl rfl rfl rfl rfl zM func3 zM
  (of_decide_eq_true zM) (by unfold Func.isWrapper;first|(rw[if_pos (by decide +kernel)];kernel_rfl)|(rw[if_neg (by decide +kernel)];exact⟨rfl,rfl⟩))
  (λos started H enc _ F=>by rw[OpenClaim.pre_eq_preRow];exact lifted os started H enc F)
theorem stand (j:Nat)(t:TypeId)(ht:Tryz.f3.params[j]? =some t):prog.wantsStandIn t=false:=by
 have h:(Tryz.f3.params.toList.all λt=> !prog.wantsStandIn t)=true:=by kernel_rfl
 simpa using List.all_eq_true.1 h t (List.mem_of_getElem? (by simpa using ht))
theorem plain (f : FuncId) (fn : Func) (hf : Tryz.pinned.checked.prog.funcNamed "hachure/hachurelaw30.EmbossMakes" = some f) (hfn : Tryz.pinned.checked.prog.funcs[f]? = some fn) :
 true=Tryz.pinned.checked.prog.looks []/\∀(j:Nat) t,fn.params[j]? =some t->Tryz.pinned.checked.prog.wantsStandIn t=false:=by
 obtain rfl : f = 3 := Option.some.inj ((show prog.funcNamed "hachure/hachurelaw30.EmbossMakes" = some 3 by kernel_rfl).symm.trans hf) |>.symm
 obtain rfl:fn=Tryz.f3:=(Option.some.inj (func3.symm.trans hfn)).symm;exact⟨by kernel_rfl,λj t ht=>stand j t ht⟩
theorem proved :Rows.EmbossMakesCardSaid :=
 Claim7.holds_tied_plain_at .later [] _ _ _ _ said (λ_ h=>by cases h) zM (λ_ h=>by cases h) embossMakes_row_tie rfl ⟨rfl,rfl⟩ zM rfl plain zM
#print axioms proved
end embossMakes
end Go.Proofs.YtfocdbjceedagaaGreatDoor

/-
  The statement 'EmbossLocal': the card, closed. It answers true for every argument. Of the tables that the row lists it reads the powers of ten alone.
-/
import Derived.Test.YtfocdbjceedagaaGreatDoorCards
import Derived.Test.YtfocdbjceedagaaGreatDoorTie
import Derived.Test.YtfocdbjceedagaaGreatDoorYbu
import Derived.Deep.DeepHandedRow
import Derived.LaidMore
set_option linter.unusedVariables false
set_option linter.unusedSimpArgs false
set_option maxRecDepth 100000
namespace Go.Proofs.YtfocdbjceedagaaGreatDoor
open _root_.Go.Proofs.Tryz
namespace embossLocal
open Go.ChangeShapes Go.WideShapes Go.ChangeAt Go.RowKit
theorem pow_of (W:World)(h:laidMetH prog Rows.embossLocalRow.laid W):Pow W:=by
 have h1:laidMet prog Rows.embossLocalRow.laid W:=h;exact Lib.tabIs_of_head (rest:=[]) (g:=1) (t:=256) (e:=235) (n:=20) (by kernel_rfl) (by kernel_rfl) (by kernel_rfl) (by kernel_rfl) (by kernel_rfl) (by kernel_rfl) (laidMet.tl (laidMet.tl h1))
theorem own:ownKnob prog.godebug=none:=by kernel_rfl
theorem laidOut:laidOutB prog=true:=by kernel_rfl
theorem walk {H:Type}{enc:TypeId×Value→H}{ds:List (DataW H)}{before:List MemPlace}(W:World)(base:Nat)(args:Array Value)(hval:∀(j:Nat) t v,Tryz.f7.params[j]? =some t→args[j]? =some v→Value.okWide prog W .any base t v)(hsz:args.toList.length=2)(hwh:DataW.Whole enc prog Tryz.f7.params.toList [] false W args.toList ds [] before)(hlm:laidMetH prog Rows.embossLocalRow.laid W) :
 Calls prog 7 args W fun e W'=>e= .returned (.bool true)∧Below W.heap.size W W':=by
 obtain⟨v0,v1,rfl⟩:∃v0 v1,args= #[v0,v1]:=by
  match args,hsz with
  |⟨[v0,v1]⟩,_=>exact⟨v0,v1,rfl⟩
 obtain⟨p,q,hA,-⟩:=hwh;obtain⟨rv,rows,q0,q1,q2,b0,b1,b2,b3,raw,rfl,hM,⟨f0,f1,f2⟩,⟨g0,g1,g2,g3⟩,fx,fy⟩:=c9p (hval 0 30 v0 rfl rfl) (b8b hA);obtain⟨la,lcap,rfl,-⟩:=id hM;obtain⟨x0,rfl,p0,p1⟩:=b2a underlying5 (hval 1 5 v1 (by kernel_rfl) rfl);have e0:IntKind.u8.min=0:=by decide
 have e1:IntKind.u8.max=255:=by decide
 rw[e0] at p0;rw[e1] at p1;exact c6p la lcap rows q0 q1 q2 b0 b1 b2 b3 raw x0 f0 f1 f2 g0 g1 g2 g3 fx fy p0 p1 W hM (pow_of W hlm)
theorem contract (H:Type)(enc:TypeId×Value→H)(W:World)(base:Nat)(args:Array Value)(ds gs:List (DataW H))(before:List MemPlace)
 (hval:∀(j:Nat) t v,Tryz.f7.params[j]? =some t→args[j]? =some v→Value.okWide prog W .any base t v)
 (hW:DataW.Whole enc prog Tryz.f7.params.toList Rows.embossLocalSpec.vars false W args.toList ds gs before) (hlm:laidMetH prog Rows.embossLocalRow.laid W) :
 Calls prog 7 args W fun e W'=>∃v,e= .returned v∧Rows.embossLocalSpec.post enc prog Tryz.f7 false true false false W args v W' :=
 c3m 4 laidOut (by kernel_rfl) rfl rfl underlying4 (fun ds h=>match ds,h with | [_,_],_=>rfl) hW (fun hsz hwh=>walk W base args hval hsz hwh hlm)
theorem laid_met (os:Os):laidMet prog Rows.embossLocalRow.laid ((World.doorLaid prog 24 os).forCall (fun _ _=>0) ⟨#[],#[.agg #[.slice none 0 0,.int .i64 0,.int .i64 0,.int .i64 0,.int .u8 0,.int .u8 0,.int .u8 0,.int .u8 0,.int .i64 0,.int .i64 0,.int .i64 0,.int .i64 0,.int .i64 0,.int .i64 0],.int .u8 0],[]⟩).memory :=
 laidMet_of_run' 8 (by kernel_rfl) (by kernel_rfl)
theorem reads (os:Os){H:Type}(enc:TypeId×Value→H):∃places,DataW.whole enc prog ((World.doorLaid prog 24 os).forCall (fun _ _=>0) ⟨#[],#[.agg #[.slice none 0 0,.int .i64 0,.int .i64 0,.int .i64 0,.int .u8 0,.int .u8 0,.int .u8 0,.int .u8 0,.int .i64 0,.int .i64 0,.int .i64 0,.int .i64 0,.int .i64 0,.int .i64 0],.int .u8 0],[]⟩).memory Tryz.f7.params.toList Rows.embossLocalSpec.vars false #[.agg #[.slice none 0 0,.int .i64 0,.int .i64 0,.int .i64 0,.int .u8 0,.int .u8 0,.int .u8 0,.int .u8 0,.int .i64 0,.int .i64 0,.int .i64 0,.int .i64 0,.int .i64 0,.int .i64 0],.int .u8 0].toList 8=some ([.agg [.nil,.agg [.lit (.int .i64 0),.lit (.int .i64 0),.lit (.int .i64 0)],.agg [.lit (.int .u8 0),.lit (.int .u8 0),.lit (.int .u8 0),.lit (.int .u8 0)],.agg [.agg [.lit (.int .i64 0),.lit (.int .i64 0)],.lit (.int .i64 0),.lit (.int .i64 0),.lit (.int .i64 0),.lit (.int .i64 0)]],.lit (.int .u8 0)],[],places) :=
 ⟨[],by kernel_rfl⟩
theorem lifted (os:Os)(started:os.Started)(H:Type)(enc:TypeId×Value→H)(F:Stop.Interp) :
 ReturnsInHanded {} Tryz.checked os 7 .any ((OpenSpec.ofChange Rows.embossLocalSpec).preRow enc prog Tryz.f7 Rows.embossLocalRow.domain false Rows.embossLocalRow.laid) (((OpenSpec.ofChange Rows.embossLocalSpec).at F).post enc prog Tryz.f7 false true false false):=by
 obtain⟨places,hx⟩:=reads os enc;refine returnsInHanded_of_row (C:=Tryz.checked) (s:=OpenSpec.ofChange Rows.embossLocalSpec) own started (by kernel_rfl) func7
  (witness_row_at (enc:=enc) (C:=Tryz.checked) false (World.doorLaid prog 24 os) #[.agg #[.slice none 0 0,.int .i64 0,.int .i64 0,.int .i64 0,.int .u8 0,.int .u8 0,.int .u8 0,.int .u8 0,.int .i64 0,.int .i64 0,.int .i64 0,.int .i64 0,.int .i64 0,.int .i64 0],.int .u8 0] rfl (by kernel_rfl) (by kernel_rfl) (by kernel_rfl)
   (OpenSpec.preRow_of_cond 8 hx (by kernel_rfl) (fun k hk=>by cases hk) (by kernel_rfl) (laid_met os))) ?_
 intro W base args ds gs before hval hW _ _ _ hlm _ _;exact contract H enc W base args ds gs before hval hW hlm
theorem said:Rows.EmbossLocalSaid :=
 OpenClaim.holds_of_cond 7 Tryz.f7 rfl rfl rfl rfl rfl rfl rfl ⟨rfl,rfl,rfl,rfl,rfl⟩ rfl rfl rfl rfl rfl (by kernel_rfl) func7 (by kernel_rfl)
  (of_decide_eq_true (by kernel_rfl)) (by unfold Func.isWrapper;first|(rw[if_pos (by decide +kernel)];kernel_rfl)|(rw[if_neg (by decide +kernel)];exact⟨rfl,rfl⟩))
  (fun os started H enc _ F=>by rw[OpenClaim.pre_eq_preRow];exact lifted os started H enc F)
theorem stand (j:Nat)(t:TypeId)(ht:Tryz.f7.params[j]? =some t):prog.wantsStandIn t=false:=by
 have h:(Tryz.f7.params.toList.all fun t=> !prog.wantsStandIn t)=true:=by kernel_rfl
 simpa using List.all_eq_true.1 h t (List.mem_of_getElem? (by simpa using ht))
theorem plain (f : FuncId) (fn : Func) (hf : Tryz.pinned.checked.prog.funcNamed "hachure/hachurelaw30.EmbossLocal" = some f) (hfn : Tryz.pinned.checked.prog.funcs[f]? = some fn) :
 true=Tryz.pinned.checked.prog.looks []∧∀(j:Nat) t,fn.params[j]? =some t→Tryz.pinned.checked.prog.wantsStandIn t=false:=by
 obtain rfl : f = 7 := Option.some.inj ((show prog.funcNamed "hachure/hachurelaw30.EmbossLocal" = some 7 by kernel_rfl).symm.trans hf) |>.symm
 obtain rfl:fn=Tryz.f7:=(Option.some.inj (func7.symm.trans hfn)).symm;exact⟨by kernel_rfl,fun j t ht=>stand j t ht⟩
theorem proved:Rows.EmbossLocalCardSaid :=
 Claim7.holds_tied_plain_at .later [] _ _ _ _ said (fun _ h=>by cases h) (by kernel_rfl) (fun _ h=>by cases h) embossLocal_row_tie rfl ⟨rfl,rfl⟩ (by kernel_rfl) rfl plain (by kernel_rfl)
#print axioms proved
end embossLocal
end Go.Proofs.YtfocdbjceedagaaGreatDoor

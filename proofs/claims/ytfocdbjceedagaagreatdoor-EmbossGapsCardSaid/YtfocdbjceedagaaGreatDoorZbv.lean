/-
  The statement 'EmbossGaps': the card, closed. It answers true for every argument. Of the tables that the row lists it reads the powers of ten alone.
-/
import Derived.Test.YtfocdbjceedagaaGreatDoorCards
import Derived.Test.YtfocdbjceedagaaGreatDoorTie
import Derived.Test.YtfocdbjceedagaaGreatDoorZbt
import Derived.Test.YtfocdbjceedagaaGreatDoorZbu
import Derived.Deep.DeepHandedRow
import Derived.LaidMore
set_option linter.unusedVariables false
set_option linter.unusedSimpArgs false
set_option maxRecDepth 100000
namespace Go.Proofs.YtfocdbjceedagaaGreatDoor
open _root_.Go.Proofs.Tryz
namespace embossGaps
open Go.ChangeShapes Go.WideShapes Go.ChangeAt Go.RowKit
theorem pow_of (W:World)(h:laidMetH prog Rows.embossGapsRow.laid W):Pow W:=by
 have h1:laidMet prog Rows.embossGapsRow.laid W:=h
 exact Lib.tabIs_of_head (rest:=[]) (g:=1) (t:=256) (e:=235) (n:=20) (by kernel_rfl) (by kernel_rfl) (by kernel_rfl) (by kernel_rfl) (by kernel_rfl) (by kernel_rfl) (laidMet.tl (laidMet.tl h1))
theorem own:ownKnob prog.godebug=none:=by kernel_rfl
theorem laidOut:laidOutB prog=true:=by kernel_rfl
theorem walk {H:Type}{enc:TypeId×Value→H}{ds:List (DataW H)}{before:List MemPlace}(W:World)(base:Nat)(args:Array Value)(hval:∀(j:Nat) t v,Tryz.f5.params[j]? =some t→args[j]? =some v→Value.okWide prog W .any base t v)(hsz:args.toList.length=1)(hwh:DataW.Whole enc prog Tryz.f5.params.toList [] false W args.toList ds [] before)(hlm:laidMetH prog Rows.embossGapsRow.laid W) :
 Calls prog 5 args W fun e W'=>e= .returned (.bool true)∧Below W.heap.size W W':=by
 obtain⟨v0,rfl⟩:∃v0,args= #[v0]:=by
  match args,hsz with
  |⟨[v0]⟩,_=>exact⟨v0,rfl⟩
 obtain⟨p,q,hA,-⟩:=hwh
 obtain⟨rv,rows,q0,q1,q2,b0,b1,b2,b3,raw,rfl,hM,⟨f0,f1,f2⟩,⟨g0,g1,g2,g3⟩,fx,fy⟩:=case_arg (hval 0 30 v0 rfl rfl) (trodAll_head hA)
 obtain⟨la,lcap,rfl,-⟩:=id hM
 exact gaps_law la lcap rows q0 q1 q2 b0 b1 b2 b3 raw f0 f1 f2 g0 g1 g2 g3 fx fy W hM (pow_of W hlm)
theorem contract (H:Type)(enc:TypeId×Value→H)(W:World)(base:Nat)(args:Array Value)(ds gs:List (DataW H))(before:List MemPlace)
 (hval:∀(j:Nat) t v,Tryz.f5.params[j]? =some t→args[j]? =some v→Value.okWide prog W .any base t v)
 (hW:DataW.Whole enc prog Tryz.f5.params.toList Rows.embossGapsSpec.vars false W args.toList ds gs before) (hlm:laidMetH prog Rows.embossGapsRow.laid W) :
 Calls prog 5 args W fun e W'=>∃v,e= .returned v∧Rows.embossGapsSpec.post enc prog Tryz.f5 false true false false W args v W' :=
 law_calls 4 laidOut (by kernel_rfl) rfl rfl underlying4 (fun ds h=>match ds,h with | [_],_=>rfl) hW (fun hsz hwh=>walk W base args hval hsz hwh hlm)
theorem laid_met (os:Os):laidMet prog Rows.embossGapsRow.laid ((World.doorLaid prog 24 os).forCall (fun _ _=>0) ⟨#[],#[.agg #[.slice none 0 0,.int .i64 0,.int .i64 0,.int .i64 0,.int .u8 0,.int .u8 0,.int .u8 0,.int .u8 0,.int .i64 0,.int .i64 0,.int .i64 0,.int .i64 0,.int .i64 0,.int .i64 0]],[]⟩).memory :=
 laidMet_of_run' 8 (by kernel_rfl) (by kernel_rfl)
theorem reads (os:Os){H:Type}(enc:TypeId×Value→H):∃places,DataW.whole enc prog ((World.doorLaid prog 24 os).forCall (fun _ _=>0) ⟨#[],#[.agg #[.slice none 0 0,.int .i64 0,.int .i64 0,.int .i64 0,.int .u8 0,.int .u8 0,.int .u8 0,.int .u8 0,.int .i64 0,.int .i64 0,.int .i64 0,.int .i64 0,.int .i64 0,.int .i64 0]],[]⟩).memory Tryz.f5.params.toList Rows.embossGapsSpec.vars false #[.agg #[.slice none 0 0,.int .i64 0,.int .i64 0,.int .i64 0,.int .u8 0,.int .u8 0,.int .u8 0,.int .u8 0,.int .i64 0,.int .i64 0,.int .i64 0,.int .i64 0,.int .i64 0,.int .i64 0]].toList 8=some ([.agg [.nil,.agg [.lit (.int .i64 0),.lit (.int .i64 0),.lit (.int .i64 0)],.agg [.lit (.int .u8 0),.lit (.int .u8 0),.lit (.int .u8 0),.lit (.int .u8 0)],.agg [.agg [.lit (.int .i64 0),.lit (.int .i64 0)],.lit (.int .i64 0),.lit (.int .i64 0),.lit (.int .i64 0),.lit (.int .i64 0)]]],[],places) :=
 ⟨[],by kernel_rfl⟩
theorem lifted (os:Os)(started:os.Started)(H:Type)(enc:TypeId×Value→H)(F:Stop.Interp) :
 ReturnsInHanded {} Tryz.checked os 5 .any ((OpenSpec.ofChange Rows.embossGapsSpec).preRow enc prog Tryz.f5 Rows.embossGapsRow.domain false Rows.embossGapsRow.laid) (((OpenSpec.ofChange Rows.embossGapsSpec).at F).post enc prog Tryz.f5 false true false false):=by
 obtain⟨places,hx⟩:=reads os enc
 refine returnsInHanded_of_row (C:=Tryz.checked) (s:=OpenSpec.ofChange Rows.embossGapsSpec) own started (by kernel_rfl) func5
  (witness_row_at (enc:=enc) (C:=Tryz.checked) false (World.doorLaid prog 24 os) #[.agg #[.slice none 0 0,.int .i64 0,.int .i64 0,.int .i64 0,.int .u8 0,.int .u8 0,.int .u8 0,.int .u8 0,.int .i64 0,.int .i64 0,.int .i64 0,.int .i64 0,.int .i64 0,.int .i64 0]] rfl (by kernel_rfl) (by kernel_rfl) (by kernel_rfl)
   (OpenSpec.preRow_of_cond 8 hx (by kernel_rfl) (fun k hk=>by cases hk) (by kernel_rfl) (laid_met os))) ?_
 intro W base args ds gs before hval hW _ _ _ hlm _ _
 exact contract H enc W base args ds gs before hval hW hlm
theorem said:Rows.EmbossGapsSaid :=
 OpenClaim.holds_of_cond 5 Tryz.f5 rfl rfl rfl rfl rfl rfl rfl ⟨rfl,rfl,rfl,rfl,rfl⟩ rfl rfl rfl rfl rfl (by kernel_rfl) func5 (by kernel_rfl)
  (of_decide_eq_true (by kernel_rfl)) (by unfold Func.isWrapper;first|(rw[if_pos (by decide +kernel)];kernel_rfl)|(rw[if_neg (by decide +kernel)];exact⟨rfl,rfl⟩))
  (fun os started H enc _ F=>by rw[OpenClaim.pre_eq_preRow];exact lifted os started H enc F)
theorem stand (j:Nat)(t:TypeId)(ht:Tryz.f5.params[j]? =some t):prog.wantsStandIn t=false:=by
 have h:(Tryz.f5.params.toList.all fun t=> !prog.wantsStandIn t)=true:=by kernel_rfl
 simpa using List.all_eq_true.1 h t (List.mem_of_getElem? (by simpa using ht))
theorem plain (f : FuncId) (fn : Func) (hf : Tryz.pinned.checked.prog.funcNamed "hachure/hachurelaw30.EmbossGaps" = some f) (hfn : Tryz.pinned.checked.prog.funcs[f]? = some fn) :
 true=Tryz.pinned.checked.prog.looks []∧∀(j:Nat) t,fn.params[j]? =some t→Tryz.pinned.checked.prog.wantsStandIn t=false:=by
 obtain rfl : f = 5 := Option.some.inj ((show prog.funcNamed "hachure/hachurelaw30.EmbossGaps" = some 5 by kernel_rfl).symm.trans hf) |>.symm
 obtain rfl:fn=Tryz.f5:=(Option.some.inj (func5.symm.trans hfn)).symm
 exact⟨by kernel_rfl,fun j t ht=>stand j t ht⟩
theorem proved:Rows.EmbossGapsCardSaid :=
 Claim7.holds_tied_plain_at .later [] _ _ _ _ said (fun _ h=>by cases h) (by kernel_rfl) (fun _ h=>by cases h) embossGaps_row_tie rfl ⟨rfl,rfl⟩ (by kernel_rfl) rfl plain (by kernel_rfl)
#print axioms proved
end embossGaps
end Go.Proofs.YtfocdbjceedagaaGreatDoor

/-
  What is proved: for every input, hachurelaw39.MergeCarries returns true, and its argument reads as it did: the edits that merge.Diff finds between two maps of a case a2b the one into the other one, read by hachureref39.Carry; between a map and itself, its ways and places in another order, there are none.
  Conditions: those of the given row alone.
-/
import Derived.Test.YteijfnkidefekaaGreatRows
import Derived.Test.YteijfnkidefekaaGreatEbx
set_option linter.unusedVariables false
set_option linter.unusedSimpArgs false
set_option linter.unusedSectionVars false
set_option maxRecDepth 100000
namespace Go.Proofs.YteijfnkidefekaaGreat
open _root_.Go.Proofs.Tryz
namespace mergeCarries
open Go Go.RowKit Go.Shelf
theorem own :ownKnob prog.godebug=none:=by kernel_rfl
theorem laidOut :laidOutB prog=true:=by kernel_rfl
theorem walk {H:Type}{enc:TypeId×Value->H}{ds:List (DataW H)}{before:List MemPlace}(W:Wd)(base:Nat)(args:Array Value)(HG:∀(j:Nat) t v,Tryz.f3.params[j]? =some t->args[j]? =some v->Value.okWide prog W .any base t v)(aM:args.toList.length=1)(HN:DataW.Whole enc prog Tryz.f3.params.toList [] false W args.toList ds [] before) :
 Calls prog 3 args W λe W'=>e= .returned (.bool true)/\Below W.heap.size W W':=by
 obtain⟨v0,rfl⟩:∃v0,args= #[v0]:=by
  match args,aM with
  |⟨[v0]⟩,_=>exact⟨v0,rfl⟩
 obtain⟨p,q,hA,-⟩:=HN;obtain⟨la,ak,rows,da,dn,dc,ga,gn,gc,rfl,hM,hd,hg⟩:=b9l (HG 0 25 v0 zM rfl) (a9l hA);exact c9m la ak rows da dn dc ga gn gc W hM hd hg
theorem lifted (os:Os)(started:os.Started)(H:Type)(enc:TypeId×Value->H) :
 ReturnsInHanded {} Tryz.checked os 3 .any (Rows.mergeCarriesSpec.pre6 enc prog Tryz.f3 Rows.mergeCarriesRow.domain false) (Rows.mergeCarriesSpec.post enc prog Tryz.f3 false true false false):=by
 refine returnsInHanded_of_change (C:=Tryz.checked) own started zM func3
  (ChangeSpec.witness6 (enc:=enc) (C:=Tryz.checked) false ⟨#[],#[.agg #[.slice none 0 0,.slice none 0 0,.slice none 0 0]],[]⟩ 8 zM zM zM zM) ?_
 intro W base args ds gs before AN hW PG _;exact b9r 4 laidOut zM rfl rfl underlying4 (λds h=>match ds,h with | [_],_=>rfl) hW (λaM HN=>walk W base args AN aM HN)
theorem over :Rows.mergeCarriesRow.holds Tryz.pinned (OpenSpec.ofChange Rows.mergeCarriesSpec) :=
 OpenClaim.holds_of_wide 3 Tryz.f3 rfl rfl rfl rfl rfl rfl rfl ⟨rfl,rfl,rfl,rfl,rfl⟩ rfl rfl rfl rfl rfl zM func3 zM
  (of_decide_eq_true zM) (by unfold Func.isWrapper;first|(rw[if_pos (by decide +kernel)];kernel_rfl)|(rw[if_neg (by decide +kernel)];exact⟨rfl,rfl⟩))
  (λos started H enc _=>lifted os started H enc)
theorem proved :Rows.MergeCarriesSaid:=over
#print axioms proved
end mergeCarries
end Go.Proofs.YteijfnkidefekaaGreat

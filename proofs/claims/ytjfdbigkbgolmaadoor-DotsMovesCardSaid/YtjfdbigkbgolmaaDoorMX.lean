/-
  The statement 'DotsMoves': the card, closed. It answers true for every argument; the tables of the library that the row lists are not read on the way.
-/
import Derived.Test.YtjfdbigkbgolmaaDoorMW
import Derived.Test.YtjfdbigkbgolmaaDoorFC
import Derived.Test.YtjfdbigkbgolmaaDoorO1
namespace Go.Proofs.YtjfdbigkbgolmaaDoor.dotsMoves
set_option linter.unusedVariables false
set_option linter.unusedSimpArgs false
open Go.ChangeShapes Go.WideShapes Go.ChangeAt Go.RowKit
set_option linter.unusedVariables false

theorem own : ownKnob Tryd.prog.godebug = none := by kernel_rfl
theorem laidOut : laidOutB Tryd.prog = true := by kernel_rfl

set_option maxRecDepth 100000 in
theorem walk {H : Type} {enc : TypeId × Value → H} {ds : List (DataW H)} {before : List MemPlace} (W : World) (base : Nat) (args : Array Value) (hval : ∀ (j : Nat) t v, Tryd.f5.params[j]? = some t → args[j]? = some v → Value.okWide Tryd.prog W .any base t v) (hsz : args.toList.length = 3) (hwh : DataW.Whole enc Tryd.prog Tryd.f5.params.toList [] false W args.toList ds [] before) :
    Calls Tryd.prog 5 args W fun e W' => e = .returned (.bool true) ∧ Below W.heap.size W W' := by
  obtain ⟨v0, v1, v2, rfl⟩ : ∃ v0 v1 v2, args = #[v0, v1, v2] := by
    match args, hsz with
    | ⟨[v0, v1, v2]⟩, _ => exact ⟨v0, v1, v2, rfl⟩
  obtain ⟨zs, hn, rfl, hz⟩ := okWide_ints (n := 2) (k := .i64) (ts := [3, 3]) (by rw [Tryd.underlying24]) (by kernel_rfl) (by kernel_rfl) (by kernel_rfl) (hval 2 24 v2 rfl rfl)
  obtain ⟨p, q, hA, -⟩ := hwh
  obtain ⟨xs, hI⟩ := ints_arg (t := 22) Tryd.underlying22 Tryd.underlying3 (by kernel_rfl) (okWide_slice Tryd.underlying22 (hval 0 22 v0 rfl rfl)) (trodAll_head hA)
  obtain ⟨ds2, ps2, hA2⟩ := trodAll_tail hA
  obtain ⟨ms, hM⟩ := ints_arg (t := 22) Tryd.underlying22 Tryd.underlying3 (by kernel_rfl) (okWide_slice Tryd.underlying22 (hval 1 22 v1 rfl rfl)) (trodAll_head hA2)
  match zs, hn with
  | [x, y], _ => exact moves_any v0 v1 xs ms x y W hI hM (hz x (by simp)) (hz y (by simp))

set_option maxRecDepth 100000 in
theorem contract (H : Type) (enc : TypeId × Value → H) (W : World) (base : Nat) (args : Array Value) (ds gs : List (DataW H)) (before : List MemPlace)
    (hval : ∀ (j : Nat) t v, Tryd.f5.params[j]? = some t → args[j]? = some v → Value.okWide Tryd.prog W .any base t v)
    (hW : DataW.Whole enc Tryd.prog Tryd.f5.params.toList Rows.dotsMovesSpec.vars false W args.toList ds gs before) :
    Calls Tryd.prog 5 args W fun e W' => ∃ v, e = .returned v ∧ Rows.dotsMovesSpec.post enc Tryd.prog Tryd.f5 false true false false W args v W' :=
  law_calls 4 laidOut (by kernel_rfl) rfl rfl Tryd.underlying4 (fun ds h => match ds, h with | [_, _, _], _ => rfl) hW (fun hsz hwh => walk W base args hval hsz hwh)

/-- the heap that the door's own run leaves meets the row's list -/
theorem laid_met (os : Os) : laidMet Tryd.prog Rows.dotsMovesRow.laid ((World.doorLaid Tryd.prog 24 os).forCall (fun _ _ => 0) ⟨#[], #[.slice none 0 0, .slice none 0 0, .agg #[.int .i64 0, .int .i64 0]], []⟩).memory :=
  laidMet_of_run' 8 (by kernel_rfl) (by kernel_rfl)
theorem reads (os : Os) {H : Type} (enc : TypeId × Value → H) : ∃ places, DataW.whole enc Tryd.prog ((World.doorLaid Tryd.prog 24 os).forCall (fun _ _ => 0) ⟨#[], #[.slice none 0 0, .slice none 0 0, .agg #[.int .i64 0, .int .i64 0]], []⟩).memory Tryd.f5.params.toList Rows.dotsMovesSpec.vars false #[.slice none 0 0, .slice none 0 0, .agg #[.int .i64 0, .int .i64 0]].toList 8 = some ([.nil, .nil, .agg [.lit (.int .i64 0), .lit (.int .i64 0)]], [], places) :=
  ⟨[], by kernel_rfl⟩

set_option maxRecDepth 100000 in
theorem lifted (os : Os) (started : os.Started) (H : Type) (enc : TypeId × Value → H) (F : Stop.Interp) :
    ReturnsInHanded {} Tryd.checked os 5 .any ((OpenSpec.ofChange Rows.dotsMovesSpec).preRow enc Tryd.prog Tryd.f5 Rows.dotsMovesRow.domain false Rows.dotsMovesRow.laid) (((OpenSpec.ofChange Rows.dotsMovesSpec).at F).post enc Tryd.prog Tryd.f5 false true false false) := by
  obtain ⟨places, hx⟩ := reads os enc
  refine returnsInHanded_of_row (C := Tryd.checked) (s := OpenSpec.ofChange Rows.dotsMovesSpec) own started (by kernel_rfl) Tryd.func5
    (witness_row_at (enc := enc) (C := Tryd.checked) false (World.doorLaid Tryd.prog 24 os) #[.slice none 0 0, .slice none 0 0, .agg #[.int .i64 0, .int .i64 0]] rfl (by kernel_rfl) (by kernel_rfl) (by kernel_rfl)
      (OpenSpec.preRow_of_cond 8 hx (by kernel_rfl) (fun k hk => by cases hk) (by kernel_rfl) (laid_met os))) ?_
  intro W base args ds gs before hval hW _ _ _ _ _ _
  exact contract H enc W base args ds gs before hval hW

theorem said : Rows.DotsMovesSaid :=
  OpenClaim.holds_of_cond 5 Tryd.f5 rfl rfl rfl rfl rfl rfl rfl ⟨rfl, rfl, rfl, rfl, rfl⟩ rfl rfl rfl rfl rfl (by kernel_rfl) Tryd.func5 (by kernel_rfl)
    (of_decide_eq_true (by kernel_rfl)) (by unfold Func.isWrapper; first | (rw [if_pos (by decide +kernel)]; kernel_rfl) | (rw [if_neg (by decide +kernel)]; exact ⟨rfl, rfl⟩))
    (fun os started H enc _ F => by rw [OpenClaim.pre_eq_preRow]; exact lifted os started H enc F)

theorem stand (j : Nat) (t : TypeId) (ht : Tryd.f5.params[j]? = some t) : Tryd.prog.wantsStandIn t = false := by
  have h : (Tryd.f5.params.toList.all fun t => !Tryd.prog.wantsStandIn t) = true := by kernel_rfl
  simpa using List.all_eq_true.1 h t (List.mem_of_getElem? (by simpa using ht))
theorem plain (f : FuncId) (fn : Func) (hf : Tryd.pinned.checked.prog.funcNamed "hachure/hachurelaw29.DotsMoves" = some f) (hfn : Tryd.pinned.checked.prog.funcs[f]? = some fn) :
    false = Tryd.pinned.checked.prog.looks [] ∧ ∀ (j : Nat) t, fn.params[j]? = some t → Tryd.pinned.checked.prog.wantsStandIn t = false := by
  obtain rfl : f = 5 := Option.some.inj ((show Tryd.prog.funcNamed "hachure/hachurelaw29.DotsMoves" = some 5 by kernel_rfl).symm.trans hf) |>.symm
  obtain rfl : fn = Tryd.f5 := (Option.some.inj (Tryd.func5.symm.trans hfn)).symm
  exact ⟨by kernel_rfl, fun j t ht => stand j t ht⟩

theorem proved : Rows.DotsMovesCardSaid :=
  Claim7.holds_tied_plain_at .later [] _ _ _ _ said (fun _ h => by cases h) (by kernel_rfl) (fun _ h => by cases h) dotsMoves_row_tie rfl ⟨rfl, rfl⟩ (by kernel_rfl) rfl plain (by kernel_rfl)
#print axioms proved
end Go.Proofs.YtjfdbigkbgolmaaDoor.dotsMoves

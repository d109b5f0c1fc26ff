/-
  The frame of a tied card: what its proof imports.
  The statement 'DotsWays': the card, closed. It answers true for every argument; the tables of the library that the row lists are not read on the way.
-/
import Derived.Test.YtjfdbigkbgolmaaGreatDoorZa
import Derived.Test.YtjfdbigkbgolmaaGreatDoorCards
import Derived.Test.YtjfdbigkbgolmaaGreatDoorTie
import Derived.Test.YtjfdbigkbgolmaaGreatDoorZY
import Derived.Test.YtjfdbigkbgolmaaGreatDoorZl
import Derived.Deep.DeepHandedRow
import Derived.LaidMore

namespace Go.Proofs.YtjfdbigkbgolmaaGreatDoor.dotsWays
set_option linter.unusedVariables false
set_option linter.unusedSimpArgs false
open Go.ChangeShapes Go.WideShapes Go.ChangeAt Go.RowKit
set_option linter.unusedVariables false

theorem own : ownKnob Tryz.prog.godebug = none := by kernel_rfl
theorem laidOut : laidOutB Tryz.prog = true := by kernel_rfl

set_option maxRecDepth 100000 in
theorem walk {H : Type} {enc : TypeId × Value → H} {ds : List (DataW H)} {before : List MemPlace} (W : World) (base : Nat) (args : Array Value) (hval : ∀ (j : Nat) t v, Tryz.f4.params[j]? = some t → args[j]? = some v → Value.okWide Tryz.prog W .any base t v) (hsz : args.toList.length = 3) (hwh : DataW.Whole enc Tryz.prog Tryz.f4.params.toList [] false W args.toList ds [] before) :
    Calls Tryz.prog 4 args W fun e W' => e = .returned (.bool true) ∧ Below W.heap.size W W' := by
  obtain ⟨v0, v1, v2, rfl⟩ : ∃ v0 v1 v2, args = #[v0, v1, v2] := by
    match args, hsz with
    | ⟨[v0, v1, v2]⟩, _ => exact ⟨v0, v1, v2, rfl⟩
  obtain ⟨p, q, hA, -⟩ := hwh
  obtain ⟨xs, hI⟩ := ints_arg (t := 22) Tryz.underlying22 Tryz.underlying3 (by kernel_rfl) (okWide_slice Tryz.underlying22 (hval 0 22 v0 rfl rfl)) (trodAll_head hA)
  obtain ⟨ds2, ps2, hA2⟩ := trodAll_tail hA
  obtain ⟨ms, hM⟩ := ints_arg (t := 22) Tryz.underlying22 Tryz.underlying3 (by kernel_rfl) (okWide_slice Tryz.underlying22 (hval 1 22 v1 rfl rfl)) (trodAll_head hA2)
  obtain ⟨ds3, ps3, hA3⟩ := trodAll_tail hA2
  obtain ⟨raw, hR, hg⟩ := ways_arg (okWide_slice Tryz.underlying36 (hval 2 36 v2 rfl rfl)) (trodAll_head hA3)
  exact dotsWays_any v0 v1 v2 xs ms raw W hI hM hR hg

set_option maxRecDepth 100000 in
theorem contract (H : Type) (enc : TypeId × Value → H) (W : World) (base : Nat) (args : Array Value) (ds gs : List (DataW H)) (before : List MemPlace)
    (hval : ∀ (j : Nat) t v, Tryz.f4.params[j]? = some t → args[j]? = some v → Value.okWide Tryz.prog W .any base t v)
    (hW : DataW.Whole enc Tryz.prog Tryz.f4.params.toList Rows.dotsWaysSpec.vars false W args.toList ds gs before) :
    Calls Tryz.prog 4 args W fun e W' => ∃ v, e = .returned v ∧ Rows.dotsWaysSpec.post enc Tryz.prog Tryz.f4 false true false false W args v W' :=
  law_calls 4 laidOut (by kernel_rfl) rfl rfl Tryz.underlying4 (fun ds h => match ds, h with | [_, _, _], _ => rfl) hW (fun hsz hwh => walk W base args hval hsz hwh)

/-- the heap that the door's own run leaves meets the row's list -/
theorem laid_met (os : Os) : laidMet Tryz.prog Rows.dotsWaysRow.laid ((World.doorLaid Tryz.prog 24 os).forCall (fun _ _ => 0) ⟨#[], #[.slice none 0 0, .slice none 0 0, .slice none 0 0], []⟩).memory :=
  laidMet_of_run' 8 (by kernel_rfl) (by kernel_rfl)
theorem reads (os : Os) {H : Type} (enc : TypeId × Value → H) : ∃ places, DataW.whole enc Tryz.prog ((World.doorLaid Tryz.prog 24 os).forCall (fun _ _ => 0) ⟨#[], #[.slice none 0 0, .slice none 0 0, .slice none 0 0], []⟩).memory Tryz.f4.params.toList Rows.dotsWaysSpec.vars false #[.slice none 0 0, .slice none 0 0, .slice none 0 0].toList 8 = some ([.nil, .nil, .nil], [], places) :=
  ⟨[], by kernel_rfl⟩

set_option maxRecDepth 100000 in
theorem lifted (os : Os) (started : os.Started) (H : Type) (enc : TypeId × Value → H) (F : Stop.Interp) :
    ReturnsInHanded {} Tryz.checked os 4 .any ((OpenSpec.ofChange Rows.dotsWaysSpec).preRow enc Tryz.prog Tryz.f4 Rows.dotsWaysRow.domain false Rows.dotsWaysRow.laid) (((OpenSpec.ofChange Rows.dotsWaysSpec).at F).post enc Tryz.prog Tryz.f4 false true false false) := by
  obtain ⟨places, hx⟩ := reads os enc
  refine returnsInHanded_of_row (C := Tryz.checked) (s := OpenSpec.ofChange Rows.dotsWaysSpec) own started (by kernel_rfl) Tryz.func4
    (witness_row_at (enc := enc) (C := Tryz.checked) false (World.doorLaid Tryz.prog 24 os) #[.slice none 0 0, .slice none 0 0, .slice none 0 0] rfl (by kernel_rfl) (by kernel_rfl) (by kernel_rfl)
      (OpenSpec.preRow_of_cond 8 hx (by kernel_rfl) (fun k hk => by cases hk) (by kernel_rfl) (laid_met os))) ?_
  intro W base args ds gs before hval hW _ _ _ _ _ _
  exact contract H enc W base args ds gs before hval hW

theorem said : Rows.DotsWaysSaid :=
  OpenClaim.holds_of_cond 4 Tryz.f4 rfl rfl rfl rfl rfl rfl rfl ⟨rfl, rfl, rfl, rfl, rfl⟩ rfl rfl rfl rfl rfl (by kernel_rfl) Tryz.func4 (by kernel_rfl)
    (of_decide_eq_true (by kernel_rfl)) (by unfold Func.isWrapper; first | (rw [if_pos (by decide +kernel)]; kernel_rfl) | (rw [if_neg (by decide +kernel)]; exact ⟨rfl, rfl⟩))
    (fun os started H enc _ F => by rw [OpenClaim.pre_eq_preRow]; exact lifted os started H enc F)

theorem stand (j : Nat) (t : TypeId) (ht : Tryz.f4.params[j]? = some t) : Tryz.prog.wantsStandIn t = false := by
  have h : (Tryz.f4.params.toList.all fun t => !Tryz.prog.wantsStandIn t) = true := by kernel_rfl
  simpa using List.all_eq_true.1 h t (List.mem_of_getElem? (by simpa using ht))
theorem plain (f : FuncId) (fn : Func) (hf : Tryz.pinned.checked.prog.funcNamed "hachure/hachurelaw29.DotsWays" = some f) (hfn : Tryz.pinned.checked.prog.funcs[f]? = some fn) :
    false = Tryz.pinned.checked.prog.looks [] ∧ ∀ (j : Nat) t, fn.params[j]? = some t → Tryz.pinned.checked.prog.wantsStandIn t = false := by
  obtain rfl : f = 4 := Option.some.inj ((show Tryz.prog.funcNamed "hachure/hachurelaw29.DotsWays" = some 4 by kernel_rfl).symm.trans hf) |>.symm
  obtain rfl : fn = Tryz.f4 := (Option.some.inj (Tryz.func4.symm.trans hfn)).symm
  exact ⟨by kernel_rfl, fun j t ht => stand j t ht⟩

theorem proved : Rows.DotsWaysCardSaid :=
  Claim7.holds_tied_plain_at .later [] _ _ _ _ said (fun _ h => by cases h) (by kernel_rfl) (fun _ h => by cases h) dotsWays_row_tie rfl ⟨rfl, rfl⟩ (by kernel_rfl) rfl plain (by kernel_rfl)
#print axioms proved
end Go.Proofs.YtjfdbigkbgolmaaGreatDoor.dotsWays

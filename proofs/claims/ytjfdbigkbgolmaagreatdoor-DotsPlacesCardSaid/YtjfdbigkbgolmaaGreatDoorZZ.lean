/-
  The frame of a tied card: what its proof imports.
  The statement 'DotsPlaces': the card, closed. It answers true for every argument. Of the tables that the row lists it reads the powers of ten alone.
-/
import Derived.Test.YtjfdbigkbgolmaaGreatDoorZa
import Derived.Test.YtjfdbigkbgolmaaGreatDoorCards
import Derived.Test.YtjfdbigkbgolmaaGreatDoorTie
import Derived.Test.YtjfdbigkbgolmaaGreatDoorZz
import Derived.Deep.DeepHandedRow
import Derived.LaidMore

namespace Go.Proofs.YtjfdbigkbgolmaaGreatDoor.dotsPlaces
set_option linter.unusedVariables false
set_option linter.unusedSimpArgs false
open Go.ChangeShapes Go.WideShapes Go.ChangeAt Go.RowKit
set_option linter.unusedVariables false

set_option maxRecDepth 100000 in
theorem pow_of (W : World) (h : laidMetH Tryz.prog Rows.dotsPlacesRow.laid W) : Pow W := by
  have h1 : laidMet Tryz.prog Rows.dotsPlacesRow.laid W := h
  exact Lib.tabIs_of_head (rest := []) (g := 1) (t := 208) (e := 186) (n := 20) (by kernel_rfl) (by kernel_rfl) (by kernel_rfl) (by kernel_rfl) (by kernel_rfl) (by kernel_rfl) (laidMet.tl (laidMet.tl h1))
theorem own : ownKnob Tryz.prog.godebug = none := by kernel_rfl
theorem laidOut : laidOutB Tryz.prog = true := by kernel_rfl

set_option maxRecDepth 100000 in
theorem walk {H : Type} {enc : TypeId × Value → H} {ds : List (DataW H)} {before : List MemPlace} (W : World) (base : Nat) (args : Array Value) (hval : ∀ (j : Nat) t v, Tryz.f3.params[j]? = some t → args[j]? = some v → Value.okWide Tryz.prog W .any base t v) (hsz : args.toList.length = 3) (hwh : DataW.Whole enc Tryz.prog Tryz.f3.params.toList [] false W args.toList ds [] before) (hlm : laidMetH Tryz.prog Rows.dotsPlacesRow.laid W) :
    Calls Tryz.prog 3 args W fun e W' => e = .returned (.bool true) ∧ Below W.heap.size W W' := by
  obtain ⟨v0, v1, v2, rfl⟩ : ∃ v0 v1 v2, args = #[v0, v1, v2] := by
    match args, hsz with
    | ⟨[v0, v1, v2]⟩, _ => exact ⟨v0, v1, v2, rfl⟩
  obtain ⟨p, q, hA, -⟩ := hwh
  obtain ⟨xs, hI⟩ := ints_arg (t := 22) Tryz.underlying22 Tryz.underlying3 (by kernel_rfl) (okWide_slice Tryz.underlying22 (hval 0 22 v0 rfl rfl)) (trodAll_head hA)
  obtain ⟨ds2, ps2, hA2⟩ := trodAll_tail hA
  obtain ⟨rows, hM, hr⟩ := mat_arg (t2 := 23) (t := 22) Tryz.underlying23 (by kernel_rfl) Tryz.underlying22 Tryz.underlying3 (by kernel_rfl) (okWide_slice Tryz.underlying23 (hval 1 23 v1 rfl rfl)) (trodAll_head hA2)
  obtain ⟨id, x, y, cs, ns, wt, ds, num, ax, ay, st, sw, sh, sg, rfl, ⟨f0, f1, f2, f5, f6, f7, f8, f9⟩, hcs⟩ := raw_arg (hval 2 31 v2 rfl rfl)
  exact dotsPlaces_any v0 v1 xs rows id x y cs ns wt ds num ax ay st sw sh sg W hI hM hr f0 f1 f2 f5 f6 f7 f8 f9 hcs (pow_of W hlm)

set_option maxRecDepth 100000 in
theorem contract (H : Type) (enc : TypeId × Value → H) (W : World) (base : Nat) (args : Array Value) (ds gs : List (DataW H)) (before : List MemPlace)
    (hval : ∀ (j : Nat) t v, Tryz.f3.params[j]? = some t → args[j]? = some v → Value.okWide Tryz.prog W .any base t v)
    (hW : DataW.Whole enc Tryz.prog Tryz.f3.params.toList Rows.dotsPlacesSpec.vars false W args.toList ds gs before) (hlm : laidMetH Tryz.prog Rows.dotsPlacesRow.laid W) :
    Calls Tryz.prog 3 args W fun e W' => ∃ v, e = .returned v ∧ Rows.dotsPlacesSpec.post enc Tryz.prog Tryz.f3 false true false false W args v W' :=
  law_calls 4 laidOut (by kernel_rfl) rfl rfl Tryz.underlying4 (fun ds h => match ds, h with | [_, _, _], _ => rfl) hW (fun hsz hwh => walk W base args hval hsz hwh hlm)

/-- the heap that the door's own run leaves meets the row's list -/
theorem laid_met (os : Os) : laidMet Tryz.prog Rows.dotsPlacesRow.laid ((World.doorLaid Tryz.prog 24 os).forCall (fun _ _ => 0) ⟨#[], #[.slice none 0 0, .slice none 0 0, .agg #[.int .i64 0, .int .i64 0, .int .i64 0, .string ⟨#[]⟩, .string ⟨#[]⟩, .int .i64 0, .int .i64 0, .int .i64 0, .int .i64 0, .int .i64 0, .int .i64 0, .int .i64 0, .int .i64 0, .int .i64 0]], []⟩).memory :=
  laidMet_of_run' 8 (by kernel_rfl) (by kernel_rfl)
theorem reads (os : Os) {H : Type} (enc : TypeId × Value → H) : ∃ places, DataW.whole enc Tryz.prog ((World.doorLaid Tryz.prog 24 os).forCall (fun _ _ => 0) ⟨#[], #[.slice none 0 0, .slice none 0 0, .agg #[.int .i64 0, .int .i64 0, .int .i64 0, .string ⟨#[]⟩, .string ⟨#[]⟩, .int .i64 0, .int .i64 0, .int .i64 0, .int .i64 0, .int .i64 0, .int .i64 0, .int .i64 0, .int .i64 0, .int .i64 0]], []⟩).memory Tryz.f3.params.toList Rows.dotsPlacesSpec.vars false #[.slice none 0 0, .slice none 0 0, .agg #[.int .i64 0, .int .i64 0, .int .i64 0, .string ⟨#[]⟩, .string ⟨#[]⟩, .int .i64 0, .int .i64 0, .int .i64 0, .int .i64 0, .int .i64 0, .int .i64 0, .int .i64 0, .int .i64 0, .int .i64 0]].toList 8 = some ([.nil, .nil, .agg [.agg [.lit (.int .i64 0), .agg [.lit (.int .i64 0), .lit (.int .i64 0)], .lit (.string []), .lit (.string []), .lit (.int .i64 0), .lit (.int .i64 0)], .lit (.int .i64 0), .agg [.agg [.lit (.int .i64 0), .lit (.int .i64 0)], .lit (.int .i64 0), .lit (.int .i64 0), .lit (.int .i64 0), .lit (.int .i64 0)]]], [], places) :=
  ⟨[], by kernel_rfl⟩

set_option maxRecDepth 100000 in
theorem lifted (os : Os) (started : os.Started) (H : Type) (enc : TypeId × Value → H) (F : Stop.Interp) :
    ReturnsInHanded {} Tryz.checked os 3 .any ((OpenSpec.ofChange Rows.dotsPlacesSpec).preRow enc Tryz.prog Tryz.f3 Rows.dotsPlacesRow.domain false Rows.dotsPlacesRow.laid) (((OpenSpec.ofChange Rows.dotsPlacesSpec).at F).post enc Tryz.prog Tryz.f3 false true false false) := by
  obtain ⟨places, hx⟩ := reads os enc
  refine returnsInHanded_of_row (C := Tryz.checked) (s := OpenSpec.ofChange Rows.dotsPlacesSpec) own started (by kernel_rfl) Tryz.func3
    (witness_row_at (enc := enc) (C := Tryz.checked) false (World.doorLaid Tryz.prog 24 os) #[.slice none 0 0, .slice none 0 0, .agg #[.int .i64 0, .int .i64 0, .int .i64 0, .string ⟨#[]⟩, .string ⟨#[]⟩, .int .i64 0, .int .i64 0, .int .i64 0, .int .i64 0, .int .i64 0, .int .i64 0, .int .i64 0, .int .i64 0, .int .i64 0]] rfl (by kernel_rfl) (by kernel_rfl) (by kernel_rfl)
      (OpenSpec.preRow_of_cond 8 hx (by kernel_rfl) (fun k hk => by cases hk) (by kernel_rfl) (laid_met os))) ?_
  intro W base args ds gs before hval hW _ _ _ hlm _ _
  exact contract H enc W base args ds gs before hval hW hlm

theorem said : Rows.DotsPlacesSaid :=
  OpenClaim.holds_of_cond 3 Tryz.f3 rfl rfl rfl rfl rfl rfl rfl ⟨rfl, rfl, rfl, rfl, rfl⟩ rfl rfl rfl rfl rfl (by kernel_rfl) Tryz.func3 (by kernel_rfl)
    (of_decide_eq_true (by kernel_rfl)) (by unfold Func.isWrapper; first | (rw [if_pos (by decide +kernel)]; kernel_rfl) | (rw [if_neg (by decide +kernel)]; exact ⟨rfl, rfl⟩))
    (fun os started H enc _ F => by rw [OpenClaim.pre_eq_preRow]; exact lifted os started H enc F)

theorem stand (j : Nat) (t : TypeId) (ht : Tryz.f3.params[j]? = some t) : Tryz.prog.wantsStandIn t = false := by
  have h : (Tryz.f3.params.toList.all fun t => !Tryz.prog.wantsStandIn t) = true := by kernel_rfl
  simpa using List.all_eq_true.1 h t (List.mem_of_getElem? (by simpa using ht))
theorem plain (f : FuncId) (fn : Func) (hf : Tryz.pinned.checked.prog.funcNamed "hachure/hachurelaw29.DotsPlaces" = some f) (hfn : Tryz.pinned.checked.prog.funcs[f]? = some fn) :
    false = Tryz.pinned.checked.prog.looks [] ∧ ∀ (j : Nat) t, fn.params[j]? = some t → Tryz.pinned.checked.prog.wantsStandIn t = false := by
  obtain rfl : f = 3 := Option.some.inj ((show Tryz.prog.funcNamed "hachure/hachurelaw29.DotsPlaces" = some 3 by kernel_rfl).symm.trans hf) |>.symm
  obtain rfl : fn = Tryz.f3 := (Option.some.inj (Tryz.func3.symm.trans hfn)).symm
  exact ⟨by kernel_rfl, fun j t ht => stand j t ht⟩

theorem proved : Rows.DotsPlacesCardSaid :=
  Claim7.holds_tied_plain_at .later [] _ _ _ _ said (fun _ h => by cases h) (by kernel_rfl) (fun _ h => by cases h) dotsPlaces_row_tie rfl ⟨rfl, rfl⟩ (by kernel_rfl) rfl plain (by kernel_rfl)
#print axioms proved
end Go.Proofs.YtjfdbigkbgolmaaGreatDoor.dotsPlaces

/-
  The statement 'DotsLines': the card, closed. It answers true for every argument; the tables of the library that the row lists are not read on the way.
-/
import Derived.Test.YtjfdbigkbgolmaaDoorW3
import Derived.Test.YtjfdbigkbgolmaaDoorFC
namespace Go.Proofs.YtjfdbigkbgolmaaDoor.dotsLines
open Go.ChangeShapes Go.WideShapes Go.ChangeAt Go.RowKit
set_option linter.unusedVariables false

theorem u16_in {x : Int} (h : IntKind.u16.has x) : 0 ≤ x ∧ x ≤ 65535 := by
  simp [IntKind.has, IntKind.min, IntKind.max, IntKind.bits, IntKind.signed] at h
  omega

theorem own : ownKnob Tryd.prog.godebug = none := by kernel_rfl
theorem laidOut : laidOutB Tryd.prog = true := by kernel_rfl

set_option maxRecDepth 100000 in
theorem walk {H : Type} {enc : TypeId × Value → H} {ds : List (DataW H)} {before : List MemPlace} (W : World) (base : Nat) (args : Array Value) (hval : ∀ (j : Nat) t v, Tryd.f4.params[j]? = some t → args[j]? = some v → Value.okWide Tryd.prog W .any base t v) (hsz : args.toList.length = 3) (hwh : DataW.Whole enc Tryd.prog Tryd.f4.params.toList [] false W args.toList ds [] before) :
    Calls Tryd.prog 4 args W fun e W' => e = .returned (.bool true) ∧ Below W.heap.size W W' := by
  obtain ⟨v0, v1, v2, rfl⟩ : ∃ v0 v1 v2, args = #[v0, v1, v2] := by
    match args, hsz with
    | ⟨[v0, v1, v2]⟩, _ => exact ⟨v0, v1, v2, rfl⟩
  obtain ⟨ys, hn1, rfl, hy⟩ := okWide_ints (n := 2) (k := .u16) (ts := [36, 36]) (by rw [Tryd.underlying37]) (by kernel_rfl) (by kernel_rfl) (by kernel_rfl) (hval 1 37 v1 rfl rfl)
  obtain ⟨zs, hn2, rfl, hz⟩ := okWide_ints (n := 2) (k := .u16) (ts := [36, 36]) (by rw [Tryd.underlying37]) (by kernel_rfl) (by kernel_rfl) (by kernel_rfl) (hval 2 37 v2 rfl rfl)
  obtain ⟨p, q, hA, -⟩ := hwh
  obtain ⟨xs, hI⟩ := ints_arg (t := 22) Tryd.underlying22 Tryd.underlying3 (by kernel_rfl) (okWide_slice Tryd.underlying22 (hval 0 22 v0 rfl rfl)) (trodAll_head hA)
  match ys, hn1, zs, hn2 with
  | [a, b], _, [x, y], _ => exact lines_law v0 xs a b x y W hI (u16_in (hy a (by simp))).1 (u16_in (hy a (by simp))).2 (u16_in (hy b (by simp))).1 (u16_in (hy b (by simp))).2 (u16_in (hz x (by simp))).1 (u16_in (hz x (by simp))).2 (u16_in (hz y (by simp))).1 (u16_in (hz y (by simp))).2

set_option maxRecDepth 100000 in
theorem contract (H : Type) (enc : TypeId × Value → H) (W : World) (base : Nat) (args : Array Value) (ds gs : List (DataW H)) (before : List MemPlace)
    (hval : ∀ (j : Nat) t v, Tryd.f4.params[j]? = some t → args[j]? = some v → Value.okWide Tryd.prog W .any base t v)
    (hW : DataW.Whole enc Tryd.prog Tryd.f4.params.toList Rows.dotsLinesSpec.vars false W args.toList ds gs before) :
    Calls Tryd.prog 4 args W fun e W' => ∃ v, e = .returned v ∧ Rows.dotsLinesSpec.post enc Tryd.prog Tryd.f4 false true false false W args v W' :=
  law_calls 4 laidOut (by kernel_rfl) rfl rfl Tryd.underlying4 (fun ds h => match ds, h with | [_, _, _], _ => rfl) hW (fun hsz hwh => walk W base args hval hsz hwh)

/-- the heap that the door's own run leaves meets the row's list -/
theorem laid_met (os : Os) : laidMet Tryd.prog Rows.dotsLinesRow.laid ((World.doorLaid Tryd.prog 24 os).forCall (fun _ _ => 0) ⟨#[], #[.slice none 0 0, .agg #[.int .u16 0, .int .u16 0], .agg #[.int .u16 0, .int .u16 0]], []⟩).memory :=
  laidMet_of_run' 8 (by kernel_rfl) (by kernel_rfl)
theorem reads (os : Os) {H : Type} (enc : TypeId × Value → H) : ∃ places, DataW.whole enc Tryd.prog ((World.doorLaid Tryd.prog 24 os).forCall (fun _ _ => 0) ⟨#[], #[.slice none 0 0, .agg #[.int .u16 0, .int .u16 0], .agg #[.int .u16 0, .int .u16 0]], []⟩).memory Tryd.f4.params.toList Rows.dotsLinesSpec.vars false #[.slice none 0 0, .agg #[.int .u16 0, .int .u16 0], .agg #[.int .u16 0, .int .u16 0]].toList 8 = some ([.nil, .agg [.lit (.int .u16 0), .lit (.int .u16 0)], .agg [.lit (.int .u16 0), .lit (.int .u16 0)]], [], places) :=
  ⟨[], by kernel_rfl⟩

set_option maxRecDepth 100000 in
theorem lifted (os : Os) (started : os.Started) (H : Type) (enc : TypeId × Value → H) (F : Stop.Interp) :
    ReturnsInHanded {} Tryd.checked os 4 .any ((OpenSpec.ofChange Rows.dotsLinesSpec).preRow enc Tryd.prog Tryd.f4 Rows.dotsLinesRow.domain false Rows.dotsLinesRow.laid) (((OpenSpec.ofChange Rows.dotsLinesSpec).at F).post enc Tryd.prog Tryd.f4 false true false false) := by
  obtain ⟨places, hx⟩ := reads os enc
  refine returnsInHanded_of_row (C := Tryd.checked) (s := OpenSpec.ofChange Rows.dotsLinesSpec) own started (by kernel_rfl) Tryd.func4
    (witness_row_at (enc := enc) (C := Tryd.checked) false (World.doorLaid Tryd.prog 24 os) #[.slice none 0 0, .agg #[.int .u16 0, .int .u16 0], .agg #[.int .u16 0, .int .u16 0]] rfl (by kernel_rfl) (by kernel_rfl) (by kernel_rfl)
      (OpenSpec.preRow_of_cond 8 hx (by kernel_rfl) (fun k hk => by cases hk) (by kernel_rfl) (laid_met os))) ?_
  intro W base args ds gs before hval hW _ _ _ _ _ _
  exact contract H enc W base args ds gs before hval hW

theorem said : Rows.DotsLinesSaid :=
  OpenClaim.holds_of_cond 4 Tryd.f4 rfl rfl rfl rfl rfl rfl rfl ⟨rfl, rfl, rfl, rfl, rfl⟩ rfl rfl rfl rfl rfl (by kernel_rfl) Tryd.func4 (by kernel_rfl)
    (of_decide_eq_true (by kernel_rfl)) (by unfold Func.isWrapper; first | (rw [if_pos (by decide +kernel)]; kernel_rfl) | (rw [if_neg (by decide +kernel)]; exact ⟨rfl, rfl⟩))
    (fun os started H enc _ F => by rw [OpenClaim.pre_eq_preRow]; exact lifted os started H enc F)

theorem stand (j : Nat) (t : TypeId) (ht : Tryd.f4.params[j]? = some t) : Tryd.prog.wantsStandIn t = false := by
  have h : (Tryd.f4.params.toList.all fun t => !Tryd.prog.wantsStandIn t) = true := by kernel_rfl
  simpa using List.all_eq_true.1 h t (List.mem_of_getElem? (by simpa using ht))
theorem plain (f : FuncId) (fn : Func) (hf : Tryd.pinned.checked.prog.funcNamed "hachure/hachurelaw29.DotsLines" = some f) (hfn : Tryd.pinned.checked.prog.funcs[f]? = some fn) :
    false = Tryd.pinned.checked.prog.looks [] ∧ ∀ (j : Nat) t, fn.params[j]? = some t → Tryd.pinned.checked.prog.wantsStandIn t = false := by
  obtain rfl : f = 4 := Option.some.inj ((show Tryd.prog.funcNamed "hachure/hachurelaw29.DotsLines" = some 4 by kernel_rfl).symm.trans hf) |>.symm
  obtain rfl : fn = Tryd.f4 := (Option.some.inj (Tryd.func4.symm.trans hfn)).symm
  exact ⟨by kernel_rfl, fun j t ht => stand j t ht⟩

theorem proved : Rows.DotsLinesCardSaid :=
  Claim7.holds_tied_plain_at .later [] _ _ _ _ said (fun _ h => by cases h) (by kernel_rfl) (fun _ h => by cases h) dotsLines_row_tie rfl ⟨rfl, rfl⟩ (by kernel_rfl) rfl plain (by kernel_rfl)
#print axioms proved
end Go.Proofs.YtjfdbigkbgolmaaDoor.dotsLines

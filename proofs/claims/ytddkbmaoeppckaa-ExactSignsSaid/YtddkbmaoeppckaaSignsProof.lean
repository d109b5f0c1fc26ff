/-
  'ExactSigns': for every four ints the function returns true: Sign2 and Cmp return what the reference returns, at the seven rows that are made of them; the argument reads as it did.
-/
import Derived.Test.YtddkbmaoeppckaaA7
import Derived.Test.YtddkbmaoeppckaaFrame
namespace Go.Proofs.Ytddkbmaoeppckaa.exactSigns
open Go.ChangeShapes Go.WideShapes Go.ChangeAt Go.RowKit
set_option linter.unusedVariables false

theorem own : ownKnob Try.prog.godebug = none := by kernel_rfl
theorem laidOut : laidOutB Try.prog = true := by kernel_rfl

theorem walk (W : World) (base : Nat) (args : Array Value) (hval : ∀ (j : Nat) t v, Try.f3.params[j]? = some t → args[j]? = some v → Value.okWide Try.prog W .any base t v) (hsz : args.toList.length = 1) :
    Calls Try.prog 3 args W fun e W' => e = .returned (.bool true) ∧ Below W.heap.size W W' := by
  obtain ⟨v0, rfl⟩ : ∃ v0, args = #[v0] := by
    match args, hsz with
    | ⟨[v0]⟩, _ => exact ⟨v0, rfl⟩
  obtain ⟨xs, hn, rfl, hx⟩ := okWide_ints (n := 4) (k := .i64) (ts := [3, 3, 3, 3]) (by rw [Try.underlying22]) (by kernel_rfl) (by kernel_rfl) (by kernel_rfl) (hval 0 22 v0 rfl rfl)
  match xs, hn with
  | [a, b, c, d], _ => exact signs_any a b c d W (hx a (by simp)) (hx b (by simp)) (hx c (by simp)) (hx d (by simp))

set_option maxRecDepth 100000 in
theorem lifted (os : Os) (started : os.Started) (H : Type) (enc : TypeId × Value → H) :
    ReturnsInHanded {} Try.checked os 3 .any (Rows.exactSignsSpec.pre6 enc Try.prog Try.f3 Rows.exactSignsRow.domain false) (Rows.exactSignsSpec.post enc Try.prog Try.f3 false true false false) := by
  refine returnsInHanded_of_change (C := Try.checked) own started (by kernel_rfl) Try.func3
    (ChangeSpec.witness6 (enc := enc) (C := Try.checked) false ⟨#[], #[.agg #[.int .i64 0, .int .i64 0, .int .i64 0, .int .i64 0]], []⟩ 8 (by kernel_rfl) (by kernel_rfl) (by kernel_rfl) (by kernel_rfl)) ?_
  intro W base args ds gs before hval0 hW hcnd _
  exact law_calls 4 laidOut (by kernel_rfl) rfl rfl Try.underlying4 (fun ds h => match ds, h with | [_], _ => rfl) hW (fun hsz _ => walk W base args hval0 hsz)

theorem over : Rows.exactSignsRow.holds Try.pinned (OpenSpec.ofChange Rows.exactSignsSpec) :=
  OpenClaim.holds_of_wide 3 Try.f3 rfl rfl rfl rfl rfl rfl rfl ⟨rfl, rfl, rfl, rfl, rfl⟩ rfl rfl rfl rfl rfl (by kernel_rfl) Try.func3 (by kernel_rfl)
    (of_decide_eq_true (by kernel_rfl)) (by unfold Func.isWrapper; first | (rw [if_pos (by decide +kernel)]; kernel_rfl) | (rw [if_neg (by decide +kernel)]; exact ⟨rfl, rfl⟩))
    (fun os started H enc _ => lifted os started H enc)

theorem proved : Rows.ExactSignsSaid := over
#print axioms proved
end Go.Proofs.Ytddkbmaoeppckaa.exactSigns

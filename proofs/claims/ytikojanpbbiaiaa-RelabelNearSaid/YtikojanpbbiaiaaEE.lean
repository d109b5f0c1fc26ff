/-
  What is proved: for every input, hachurelaw24.RelabelNear returns true, and its arguments read as they did: where a place goes from a made map, each label that differs afterwards stands behind it and is reached by a chain of labels from it that are near to each other, and Change returns how many these are.
  Conditions: those of the given row alone.
-/
import Derived.Test.YtikojanpbbiaiaaEc
import Derived.Test.YtikojanpbbiaiaaRows

namespace Go.Proofs.Ytikojanpbbiaiaa.relabelNear
set_option linter.unusedVariables false
set_option linter.unusedSimpArgs false
open Go Go.RowKit Go.Shelf
theorem own : ownKnob Try.prog.godebug = none := by kernel_rfl
theorem laidOut : laidOutB Try.prog = true := by kernel_rfl

set_option maxRecDepth 100000 in
theorem walk {H : Type} {enc : TypeId × Value → H} {ds : List (DataW H)} {before : List MemPlace} (W : World) (base : Nat) (args : Array Value) (hval : ∀ (j : Nat) t v, Try.f3.params[j]? = some t → args[j]? = some v → Value.okWide Try.prog W .any base t v) (hsz : args.toList.length = 2) (hwh : DataW.Whole enc Try.prog Try.f3.params.toList [] false W args.toList ds [] before) :
    Calls Try.prog 3 args W fun e W' => e = .returned (.bool true) ∧ Below W.heap.size W W' := by
  obtain ⟨v0, v1, rfl⟩ : ∃ v0 v1, args = #[v0, v1] := by
    match args, hsz with
    | ⟨[v0, v1]⟩, _ => exact ⟨v0, v1, rfl⟩
  obtain ⟨x0, rfl, p0, p1⟩ := okWide_int_has Try.underlying5 (hval 1 5 v1 (by kernel_rfl) rfl)
  obtain ⟨p, q, hA, -⟩ := hwh
  obtain ⟨rows, hM, -⟩ := mat_arg (t2 := 22) Try.underlying22 (by kernel_rfl) Try.underlying55 Try.underlying3 (by kernel_rfl) (okWide_slice Try.underlying22 (hval 0 22 v0 (by kernel_rfl) rfl)) (trodAll_head hA)
  obtain ⟨a, cap, rfl, -⟩ := id hM
  exact near_law a cap rows x0 p0 p1 W hM

set_option maxRecDepth 100000 in
theorem lifted (os : Os) (started : os.Started) (H : Type) (enc : TypeId × Value → H) :
    ReturnsInHanded {} Try.checked os 3 .any (Rows.relabelNearSpec.pre6 enc Try.prog Try.f3 Rows.relabelNearRow.domain false) (Rows.relabelNearSpec.post enc Try.prog Try.f3 false true false false) := by
  refine returnsInHanded_of_change (C := Try.checked) own started (by kernel_rfl) Try.func3
    (ChangeSpec.witness6 (enc := enc) (C := Try.checked) false ⟨#[], #[.slice none 0 0, .int .u8 0], []⟩ 8 (by kernel_rfl) (by kernel_rfl) (by kernel_rfl) (by kernel_rfl)) ?_
  intro W base args ds gs before hval0 hW hcnd _
  exact law_calls 4 laidOut (by kernel_rfl) rfl rfl Try.underlying4 (fun ds h => match ds, h with | [_, _], _ => rfl) hW (fun hsz hwh => walk W base args hval0 hsz hwh)

theorem over : Rows.relabelNearRow.holds Try.pinned (OpenSpec.ofChange Rows.relabelNearSpec) :=
  OpenClaim.holds_of_wide 3 Try.f3 rfl rfl rfl rfl rfl rfl rfl ⟨rfl, rfl, rfl, rfl, rfl⟩ rfl rfl rfl rfl rfl (by kernel_rfl) Try.func3 (by kernel_rfl)
    (of_decide_eq_true (by kernel_rfl)) (by unfold Func.isWrapper; first | (rw [if_pos (by decide +kernel)]; kernel_rfl) | (rw [if_neg (by decide +kernel)]; exact ⟨rfl, rfl⟩))
    (fun os started H enc _ => lifted os started H enc)

theorem proved : Rows.RelabelNearSaid := over
#print axioms proved
end Go.Proofs.Ytikojanpbbiaiaa.relabelNear

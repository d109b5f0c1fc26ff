/-
  What is proved: for every input, hachurelaw24.RelabelReach returns true, and its arguments read as they did: relabel.Reach answers as the reference does, for any two lists of labels, and for lists of which one is made of the other one.
  Conditions: those of the given row alone.
-/
import Derived.Test.YtikojanpbbiaiaaZv
import Derived.Test.YtikojanpbbiaiaaRows

namespace Go.Proofs.Ytikojanpbbiaiaa.relabelReach
set_option linter.unusedVariables false
set_option linter.unusedSimpArgs false
open Go Go.RowKit Go.Shelf
set_option maxRecDepth 100000 in
theorem which_arg {W : World} {r : Reach} {base : Nat} {v : Value} (h : Value.okWide Try.prog W r base 50 v) : ∃ x0 x1 : Int, v = .agg #[.int .u8 x0, .int .u8 x1] ∧ IntKind.u8.has x0 ∧ IntKind.u8.has x1 := by
  obtain ⟨xs, hxs, rfl, hx⟩ := okWide_ints (n := 2) (k := .u8) (ts := [5, 5]) (by kernel_rfl) (by kernel_rfl) (by kernel_rfl) (by kernel_rfl) h
  match xs, hxs with
  | [x0, x1], _ => exact ⟨x0, x1, rfl, hx x0 (by simp), hx x1 (by simp)⟩
theorem own : ownKnob Try.prog.godebug = none := by kernel_rfl
theorem laidOut : laidOutB Try.prog = true := by kernel_rfl

set_option maxRecDepth 100000 in
theorem walk {H : Type} {enc : TypeId × Value → H} {ds : List (DataW H)} {before : List MemPlace} (W : World) (base : Nat) (args : Array Value) (hval : ∀ (j : Nat) t v, Try.f5.params[j]? = some t → args[j]? = some v → Value.okWide Try.prog W .any base t v) (hsz : args.toList.length = 3) (hwh : DataW.Whole enc Try.prog Try.f5.params.toList [] false W args.toList ds [] before) :
    Calls Try.prog 5 args W fun e W' => e = .returned (.bool true) ∧ Below W.heap.size W W' := by
  obtain ⟨v0, v1, v2, rfl⟩ : ∃ v0 v1 v2, args = #[v0, v1, v2] := by
    match args, hsz with
    | ⟨[v0, v1, v2]⟩, _ => exact ⟨v0, v1, v2, rfl⟩
  obtain ⟨x0, x1, rfl, ⟨p0, p1⟩, q0, q1⟩ := which_arg (hval 2 50 v2 (by kernel_rfl) rfl)
  obtain ⟨p, q, hA, -⟩ := hwh
  obtain ⟨a1, n1, c1, l1, rfl, hL1, e1, k1⟩ := labels_arg (okWide_slice Try.underlying33 (hval 0 33 v0 (by kernel_rfl) rfl)) (trodAll_head hA)
  obtain ⟨ds', ps', hA'⟩ := trodAll_tail hA
  obtain ⟨a2, n2, c2, l2, rfl, hL2, e2, k2⟩ := labels_arg (okWide_slice Try.underlying33 (hval 1 33 v1 (by kernel_rfl) rfl)) (trodAll_head hA')
  exact law_any a1 a2 n1 n2 c1 c2 l1 l2 x0 x1 p0 q0 p1 q1 W hL1 hL2 e1 e2 k1 k2

set_option maxRecDepth 100000 in
theorem lifted (os : Os) (started : os.Started) (H : Type) (enc : TypeId × Value → H) :
    ReturnsInHanded {} Try.checked os 5 .any (Rows.relabelReachSpec.pre6 enc Try.prog Try.f5 Rows.relabelReachRow.domain false) (Rows.relabelReachSpec.post enc Try.prog Try.f5 false true false false) := by
  refine returnsInHanded_of_change (C := Try.checked) own started (by kernel_rfl) Try.func5
    (ChangeSpec.witness6 (enc := enc) (C := Try.checked) false ⟨#[], #[.slice none 0 0, .slice none 0 0, .agg #[.int .u8 0, .int .u8 0]], []⟩ 8 (by kernel_rfl) (by kernel_rfl) (by kernel_rfl) (by kernel_rfl)) ?_
  intro W base args ds gs before hval0 hW hcnd _
  exact law_calls 4 laidOut (by kernel_rfl) rfl rfl Try.underlying4 (fun ds h => match ds, h with | [_, _, _], _ => rfl) hW (fun hsz hwh => walk W base args hval0 hsz hwh)

theorem over : Rows.relabelReachRow.holds Try.pinned (OpenSpec.ofChange Rows.relabelReachSpec) :=
  OpenClaim.holds_of_wide 5 Try.f5 rfl rfl rfl rfl rfl rfl rfl ⟨rfl, rfl, rfl, rfl, rfl⟩ rfl rfl rfl rfl rfl (by kernel_rfl) Try.func5 (by kernel_rfl)
    (of_decide_eq_true (by kernel_rfl)) (by unfold Func.isWrapper; first | (rw [if_pos (by decide +kernel)]; kernel_rfl) | (rw [if_neg (by decide +kernel)]; exact ⟨rfl, rfl⟩))
    (fun os started H enc _ => lifted os started H enc)

theorem proved : Rows.RelabelReachSaid := over
#print axioms proved
end Go.Proofs.Ytikojanpbbiaiaa.relabelReach

/-
  'SpanRoots': for every int and vector the function returns true: Scale is the root, rounded down, of a square, cut at 1024; the bands end where they say; a quarter turn leaves Square as it is.
-/
import Derived.Test.YtfcmmclialeepaaS5
import Derived.Test.YtfcmmclialeepaaFrame
namespace Go.Proofs.Ytfcmmclialeepaa
open Go.RowKit Go.Shelf
attribute [local go_sem] Oper.semAt_some

theorem scale_is (n : Int) : (n < 0 ∧ scaleN n = 0) ∨ (0 ≤ n ∧ 1048576 ≤ n ∧ scaleN n = 1024) ∨ (0 ≤ n ∧ ∃ z, scaleN n = z ∧ 0 ≤ z ∧ z < 1024 ∧ z * z ≤ n ∧ n < (z + 1) * (z + 1) ∧ 0 ≤ z * z ∧ z * z ≤ 1048576 ∧ 0 ≤ (z + 1) * (z + 1) ∧ (z + 1) * (z + 1) ≤ 1048576) := by
  unfold scaleN
  by_cases h : n < 0
  · exact .inl ⟨h, by rw [if_pos h]⟩
  · have h0 : 0 ≤ n := by omega
    obtain ⟨s0, s1, s2, s3⟩ := root_is h0
    rw [if_neg h]
    by_cases h2 : root n < 1024
    · refine .inr (.inr ⟨h0, root n, by rw [if_pos (by omega)], s0, h2, s2, ?_, ?_⟩)
      · rcases s3 with h3 | h3 <;> omega
      · have g1 := sq_le (a := 0) (b := root n) (by decide) s0
        have g2 := sq_le (a := root n) (b := 1024) s0 (by omega)
        have g3 := sq_le (a := 0) (b := root n + 1) (by decide) (by omega)
        have g4 := sq_le (a := root n + 1) (b := 1024) (by omega) (by omega)
        omega
    · have hq := sq_le (a := 1024) (b := root n) (by decide) (by omega)
      refine .inr (.inl ⟨h0, by omega, ?_⟩)
      by_cases h3 : root n ≤ 1024
      · rw [if_pos h3]; omega
      · rw [if_neg h3]

theorem rem4 (n : Int) : -40000 < n.tmod 40000 ∧ n.tmod 40000 < 40000 := ⟨Int.lt_tmod_of_pos n (b := 40000) (by decide), Int.tmod_lt_of_pos n (b := 40000) (by decide)⟩

theorem self_nonneg (x : Int) : 0 ≤ x * x := by
  by_cases h : 0 ≤ x
  · exact Int.mul_nonneg h h
  · rw [← Int.neg_mul_neg]; exact Int.mul_nonneg (by omega) (by omega)
theorem sqs (x y : Int) : ∃ r, x * x + y * y = r ∧ -y * -y + x * x = r ∧ y * y + x * x = r ∧ 0 ≤ r ∧ ((x = 0 ∧ y = 0 ∧ r = 0) ∨ (¬ x = 0 ∧ ¬ r = 0) ∨ (x = 0 ∧ ¬ y = 0 ∧ ¬ r = 0)) := by
  refine ⟨_, rfl, by rw [Int.neg_mul_neg]; omega, by omega, ?_, ?_⟩
  · have := self_nonneg x
    have := self_nonneg y
    omega
  · by_cases hx : x = 0
    · by_cases hy : y = 0
      · exact .inl ⟨hx, hy, by rw [hx, hy]; rfl⟩
      · refine .inr (.inr ⟨hx, hy, ?_⟩)
        rw [hx]
        have : y * y ≠ 0 := fun h => hy (by rcases Int.mul_eq_zero.1 h with h | h <;> exact h)
        omega
    · refine .inr (.inl ⟨hx, ?_⟩)
      have h1 : x * x ≠ 0 := fun h => hx (by rcases Int.mul_eq_zero.1 h with h | h <;> exact h)
      have := self_nonneg x
      have := self_nonneg y
      omega

set_option maxRecDepth 100000 in
set_option maxHeartbeats 4000000 in
theorem roots_law (n X Y : Int) (w : World) (hn : fits n) (hX : fits X) (hY : fits Y) :
    Calls Try.prog 3 #[.int .i64 n, .agg #[.int .i64 X, .int .i64 Y]] w fun r w' => r = .returned (.bool true) ∧ Below w.heap.size w w' := by
  have ⟨_n0, _n1⟩ := hn
  obtain ⟨x0, x1⟩ := rem4 X
  obtain ⟨y0, y1⟩ := rem4 Y
  have b0 : bandN 1024 = 0 := by decide +kernel
  have b1 : bandN 1025 = 1 := by decide +kernel
  have b2 : bandN 16384 = 1 := by decide +kernel
  have b3 : bandN 16385 = 2 := by decide +kernel
  have b4 : bandN 262144 = 2 := by decide +kernel
  have b5 : bandN 262145 = 3 := by decide +kernel
  have b6 : bandN 1152921504606846976 = 3 := by decide +kernel
  rcases scale_is n with ⟨h1, hz⟩ | ⟨h1, h2, hz⟩ | ⟨h1, z, hz, z0, z1, z2, z3, z4, z5, z6, z7⟩
  all_goals
    go_enter Try.func3, Try.ntmps3
    go_wp2_with (first | (go_at_call 6; refine (sanity_any _).mono ?_; rintro e w' ⟨rfl, hb_⟩; obtain ⟨p, rfl⟩ := grow_of_below hb_; clear hb_) | (go_at_call 7; refine (scale_any _ _ hn).mono ?_; rintro e w' ⟨rfl, hb_⟩; obtain ⟨p, rfl⟩ := grow_of_below hb_; clear hb_))
    generalize X.tmod 40000 = x at *
    generalize Y.tmod 40000 = y at *
    refine wp_loop_rounds 5 ?_
    rw [rounds_succ]
    go_wp2_with fail
    first | with_reducible refine wp_region_grow2 (by kernel_rfl) (by kernel_rfl) ?_ | with_reducible refine wp_region_grow (by kernel_rfl) (by kernel_rfl) ?_
    repeat (first | go_big_quiet_step ((go_at_call 8; exact Calls.grow_of (band_any _ _))) | quiet_step ((go_at_call 8; exact Calls.grow_of (band_any _ _))))
    refine wpQuiet_nil ?_
    intro _ hw_
    obtain ⟨p, hw_⟩ := hw_
    subst hw_
    go_wp2_with fail
    rw [rounds_succ]
    go_wp2_with fail
    first | with_reducible refine wp_region_grow2 (by kernel_rfl) (by kernel_rfl) ?_ | with_reducible refine wp_region_grow (by kernel_rfl) (by kernel_rfl) ?_
    repeat (first | go_big_quiet_step ((go_at_call 8; exact Calls.grow_of (band_any _ _))) | quiet_step ((go_at_call 8; exact Calls.grow_of (band_any _ _))))
    refine wpQuiet_nil ?_
    intro _ hw_
    obtain ⟨p, hw_⟩ := hw_
    subst hw_
    go_wp2_with fail
    rw [rounds_succ]
    go_wp2_with fail
    first | with_reducible refine wp_region_grow2 (by kernel_rfl) (by kernel_rfl) ?_ | with_reducible refine wp_region_grow (by kernel_rfl) (by kernel_rfl) ?_
    repeat (first | go_big_quiet_step ((go_at_call 8; exact Calls.grow_of (band_any _ _))) | quiet_step ((go_at_call 8; exact Calls.grow_of (band_any _ _))))
    refine wpQuiet_nil ?_
    intro _ hw_
    obtain ⟨p, hw_⟩ := hw_
    subst hw_
    go_wp2_with fail
    rw [rounds_succ]
    go_wp2_with fail
    first | with_reducible refine wp_region_grow2 (by kernel_rfl) (by kernel_rfl) ?_ | with_reducible refine wp_region_grow (by kernel_rfl) (by kernel_rfl) ?_
    repeat (first | go_big_quiet_step ((go_at_call 8; exact Calls.grow_of (band_any _ _))) | quiet_step ((go_at_call 8; exact Calls.grow_of (band_any _ _))))
    refine wpQuiet_nil ?_
    intro _ hw_
    obtain ⟨p, hw_⟩ := hw_
    subst hw_
    go_wp2_with fail
    rw [rounds_succ]
    go_wp2_with fail
    obtain ⟨r, hr1, hr2, hr3, r0, hr⟩ := sqs x y
    obtain ⟨hr1, hr2, hr3⟩ : Hid (x * x + y * y = r) ∧ Hid (-y * -y + x * x = r) ∧ Hid (y * y + x * x = r) := ⟨hr1, hr2, hr3⟩
    rcases hr with ⟨rfl, rfl, rfl⟩ | ⟨q1, q2⟩ | ⟨rfl, q1, q2⟩ <;>
    · go_wp2_with (go_at_call 9; refine (square_any _ _ _ (by omega) (by omega) _ (by first | with_reducible exact hr1.out | with_reducible exact hr2.out | with_reducible exact hr3.out)).mono ?_; rintro e w' ⟨rfl, hb_⟩; obtain ⟨p, rfl⟩ := grow_of_below hb_; clear hb_)
      go_ret
      exact ⟨by first | rfl | (simp; done) | (simp; assumption), (by repeat' (first | with_reducible exact Below.refl _ _ | with_reducible exact Nat.le_refl _ | with_reducible assumption | with_reducible refine Go.below_growBy' ?_ ?_ _ | with_reducible refine Below.alloc ?_ ?_ _ | with_reducible refine Below.setCell ?_ ?_ _ | with_reducible refine Below.drew ?_ | with_reducible refine Go.le_alloc ?_ | with_reducible refine Go.le_growBy ?_ | with_reducible refine Go.le_setCell ?_ | with_reducible refine Go.le_drew ?_ | omega | (dsimp only; omega)))⟩
end Go.Proofs.Ytfcmmclialeepaa
namespace Go.Proofs.Ytfcmmclialeepaa.spanRoots
open Go.ChangeShapes Go.WideShapes Go.ChangeAt Go.RowKit
set_option linter.unusedVariables false

theorem own : ownKnob Try.prog.godebug = none := by kernel_rfl
theorem laidOut : laidOutB Try.prog = true := by kernel_rfl

theorem walk (W : World) (base : Nat) (args : Array Value) (hval : ∀ (j : Nat) t v, Try.f3.params[j]? = some t → args[j]? = some v → Value.okWide Try.prog W .any base t v) (hsz : args.toList.length = 2) :
    Calls Try.prog 3 args W fun e W' => e = .returned (.bool true) ∧ Below W.heap.size W W' := by
  obtain ⟨v0, v1, rfl⟩ : ∃ v0 v1, args = #[v0, v1] := by
    match args, hsz with
    | ⟨[v0, v1]⟩, _ => exact ⟨v0, v1, rfl⟩
  obtain ⟨c, rfl, hc⟩ := okWide_int_has Try.underlying3 (hval 0 3 v0 rfl rfl)
  obtain ⟨xs, hn, rfl, hx⟩ := okWide_ints (n := 2) (k := .i64) (ts := [3, 3]) (by rw [Try.underlying23]) (by kernel_rfl) (by kernel_rfl) (by kernel_rfl) (hval 1 23 v1 rfl rfl)
  match xs, hn with
  | [a, b], _ => exact roots_law c a b W hc (hx a (by simp)) (hx b (by simp))

set_option maxRecDepth 100000 in
theorem lifted (os : Os) (started : os.Started) (H : Type) (enc : TypeId × Value → H) :
    ReturnsInHanded {} Try.checked os 3 .any (Rows.spanRootsSpec.pre6 enc Try.prog Try.f3 Rows.spanRootsRow.domain false) (Rows.spanRootsSpec.post enc Try.prog Try.f3 false true false false) := by
  refine returnsInHanded_of_change (C := Try.checked) own started (by kernel_rfl) Try.func3
    (ChangeSpec.witness6 (enc := enc) (C := Try.checked) false ⟨#[], #[.int .i64 0, .agg #[.int .i64 0, .int .i64 0]], []⟩ 8 (by kernel_rfl) (by kernel_rfl) (by kernel_rfl) (by kernel_rfl)) ?_
  intro W base args ds gs before hval0 hW hcnd _
  exact law_calls 4 laidOut (by kernel_rfl) rfl rfl Try.underlying4 (fun ds h => match ds, h with | [_, _], _ => rfl) hW (fun hsz _ => walk W base args hval0 hsz)

theorem over : Rows.spanRootsRow.holds Try.pinned (OpenSpec.ofChange Rows.spanRootsSpec) :=
  OpenClaim.holds_of_wide 3 Try.f3 rfl rfl rfl rfl rfl rfl rfl ⟨rfl, rfl, rfl, rfl, rfl⟩ rfl rfl rfl rfl rfl (by kernel_rfl) Try.func3 (by kernel_rfl)
    (of_decide_eq_true (by kernel_rfl)) (by unfold Func.isWrapper; first | (rw [if_pos (by decide +kernel)]; kernel_rfl) | (rw [if_neg (by decide +kernel)]; exact ⟨rfl, rfl⟩))
    (fun os started H enc _ => lifted os started H enc)

theorem proved : Rows.SpanRootsSaid := over
#print axioms proved
end Go.Proofs.Ytfcmmclialeepaa.spanRoots

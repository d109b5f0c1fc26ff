/-
  'ExactSmall': for every four ints and a factor the function returns true: Sign2 of small numbers is the sign of the difference of the products, and a common factor plays no part but for its sign; the arguments read as they did.
-/
import Derived.Test.YtddkbmaoeppckaaA7
import Derived.Test.YtddkbmaoeppckaaFrame
namespace Go.Proofs.Ytddkbmaoeppckaa
open Go.RowKit

theorem sign2_pos {a b c d : Int} (h : 0 < a * b - c * d) : sign2 a b c d = 1 ∧ sign2 c d a b = -1 ∧ sign2 b a d c = 1 := by
  unfold sign2
  rw [Int.mul_comm b a, Int.mul_comm d c]
  exact ⟨Int.sign_eq_one_of_pos h, Int.sign_eq_neg_one_of_neg (by omega), Int.sign_eq_one_of_pos h⟩
theorem sign2_neg {a b c d : Int} (h : a * b - c * d < 0) : sign2 a b c d = -1 ∧ sign2 c d a b = 1 ∧ sign2 b a d c = -1 := by
  unfold sign2
  rw [Int.mul_comm b a, Int.mul_comm d c]
  exact ⟨Int.sign_eq_neg_one_of_neg h, Int.sign_eq_one_of_pos (by omega), Int.sign_eq_neg_one_of_neg h⟩
theorem sign2_zero {a b c d : Int} (h : a * b - c * d = 0) : sign2 a b c d = 0 ∧ sign2 c d a b = 0 ∧ sign2 b a d c = 0 := by
  unfold sign2
  rw [Int.mul_comm b a, Int.mul_comm d c, h, show c * d - a * b = 0 from by omega]
  exact ⟨rfl, rfl, rfl⟩
/-- a common factor -/
theorem sign2_factor (a b c d g : Int) : sign2 (a * g) b (c * g) d = sign2 a b c d * sign2 g 1 0 1 := by
  unfold sign2
  rw [Int.mul_one, Int.zero_mul, Int.sub_zero, ← Int.sign_mul, Int.sub_mul, Int.mul_right_comm, Int.mul_right_comm c]
theorem sign2_both (a c g : Int) : sign2 a g c g = (a - c).sign * g.sign := by
  unfold sign2
  rw [← Int.sub_mul, Int.sign_mul]
theorem sign2_bd (a b c d : Int) : -1 ≤ sign2 a b c d ∧ sign2 a b c d ≤ 1 := sgn_bd _

theorem sign_of_le (n : Int) : (n < 0 ∧ n.sign = -1) ∨ ((n ≤ 0 ∧ 0 ≤ n) ∧ n.sign = 0) ∨ (0 < n ∧ n.sign = 1) := by
  rcases sign_of n with h | ⟨h, e⟩ | h
  · exact .inl h
  · exact .inr (.inl ⟨by omega, e⟩)
  · exact .inr (.inr h)
theorem small_facts (A B C D g s0 s1 s2 : Int) (e0 : (A * B - C * D).sign = s0) (e1 : (A - C).sign = s1) (e2 : g.sign = s2) :
    sign2 A B C D = s0 ∧ sign2 C D A B = -s0 ∧ sign2 B A D C = s0 ∧ sign2 A g C g = s1 * s2 ∧ sign2 g 1 0 1 = s2 ∧ sign2 (A * g) B (C * g) D = s0 * s2 := by
  have h5 : sign2 g 1 0 1 = s2 := by rw [← e2]; unfold sign2; rw [Int.mul_one, Int.zero_mul, Int.sub_zero]
  have h1 : sign2 A B C D = s0 := e0
  refine ⟨h1, ?_, ?_, ?_, h5, ?_⟩
  · rw [← e0, ← Int.sign_neg]; unfold sign2; congr 1; omega
  · rw [← e0]; unfold sign2; rw [Int.mul_comm B A, Int.mul_comm D C]
  · rw [sign2_both, e1, e2]
  · rw [sign2_factor, h1, h5]

set_option maxHeartbeats 2000000 in
theorem small_any (a b c d f : Int) (w : World) (ha : fits a) (hb : fits b) (hc : fits c) (hd : fits d) (hf : fits f) :
    Calls Try.prog 4 #[.agg #[.int .i64 a, .int .i64 b, .int .i64 c, .int .i64 d], .int .i64 f] w fun r w' => r = .returned (.bool true) ∧ Below w.heap.size w w' := by
  have ⟨_a0, _a1⟩ := ha
  have ⟨_b0, _b1⟩ := hb
  have ⟨_c0, _c1⟩ := hc
  have ⟨_d0, _d1⟩ := hd
  have ⟨_f0, _f1⟩ := hf
  obtain ⟨a0, a1⟩ := rem30 a
  obtain ⟨b0, b1⟩ := rem30 b
  obtain ⟨c0, c1⟩ := rem30 c
  obtain ⟨d0, d1⟩ := rem30 d
  obtain ⟨f0, f1⟩ := rem30 f
  go_enter Try.func4, Try.ntmps4
  go_wp2_with (go_at_call 9; refine (sanity_any _).mono ?_; rintro e w' ⟨rfl, hb_⟩; obtain ⟨p, rfl⟩ := grow_of_below hb_; clear hb_)
  first | with_reducible refine wp_region_grow2 (by kernel_rfl) (by kernel_rfl) ?_ | with_reducible refine wp_region_grow (by kernel_rfl) (by kernel_rfl) ?_
  repeat (first | go_big_quiet_step (fail) | quiet_step (fail))
  refine wpQuiet_nil ?_
  intro _ hw_
  obtain ⟨p, hw_⟩ := hw_
  subst hw_
  generalize a.tmod 1073741824 = A at *
  generalize b.tmod 1073741824 = B at *
  generalize c.tmod 1073741824 = C at *
  generalize d.tmod 1073741824 = D at *
  obtain ⟨m10, m11⟩ := mul_small a0 a1 b0 b1
  obtain ⟨m20, m21⟩ := mul_small c0 c1 d0 d1
  obtain ⟨m30, m31⟩ := mul_small a0 a1 f0 f1
  obtain ⟨m40, m41⟩ := mul_small c0 c1 f0 f1
  obtain ⟨s10, s11⟩ := sign2_bd (f.tmod 1073741824) 1 0 1
  have K : ∀ n : Int, -1073741824 < n → n < 1073741824 → fits n := fun n h0 h1 => ⟨by omega, by omega⟩
  have K2 : ∀ n : Int, -1152921504606846976 ≤ n → n ≤ 1152921504606846976 → fits n := fun n h0 h1 => ⟨by omega, by omega⟩
  have kA := K A a0 a1
  have kB := K B b0 b1
  have kC := K C c0 c1
  have kD := K D d0 d1
  have kg := K _ f0 f1
  have kAg := K2 _ m30 m31
  have kCg := K2 _ m40 m41
  have k0 := K 0 (by decide) (by decide)
  have k1 := K 1 (by decide) (by decide)
  clear K K2
  rcases sign_of_le (A * B - C * D) with ⟨hn, e0⟩ | ⟨⟨hn, hn'⟩, e0⟩ | ⟨hn, e0⟩ <;> rcases sign_of_le (A - C) with ⟨hm, e1⟩ | ⟨⟨hm, hm'⟩, e1⟩ | ⟨hm, e1⟩ <;> rcases sign_of_le (f.tmod 1073741824) with ⟨hg, e2⟩ | ⟨⟨hg, hg'⟩, e2⟩ | ⟨hg, e2⟩
  all_goals
    obtain ⟨t1, t2, t3, t4, t5, t6⟩ := small_facts A B C D _ _ _ _ e0 e1 e2
    simp at t2 t4 t6
    clear e0 e1 e2
    go_wp2_with (go_at_call 10; refine (c_sign2 _ _ _ _ _ (by assumption) (by assumption) (by assumption) (by assumption)).mono ?_; rintro e w' ⟨rfl, hb_⟩; obtain ⟨p, rfl⟩ := grow_of_below hb_; clear hb_)
    go_ret
    exact ⟨rfl, (by repeat' (first | with_reducible exact Below.refl _ _ | with_reducible exact Nat.le_refl _ | with_reducible assumption | with_reducible refine Go.below_growBy' ?_ ?_ _ | with_reducible refine Below.alloc ?_ ?_ _ | with_reducible refine Below.setCell ?_ ?_ _ | with_reducible refine Below.drew ?_ | with_reducible refine Go.le_alloc ?_ | with_reducible refine Go.le_growBy ?_ | with_reducible refine Go.le_setCell ?_ | with_reducible refine Go.le_drew ?_ | omega))⟩
end Go.Proofs.Ytddkbmaoeppckaa
namespace Go.Proofs.Ytddkbmaoeppckaa.exactSmall
open Go.ChangeShapes Go.WideShapes Go.ChangeAt Go.RowKit
set_option linter.unusedVariables false

theorem own : ownKnob Try.prog.godebug = none := by kernel_rfl
theorem laidOut : laidOutB Try.prog = true := by kernel_rfl

theorem walk (W : World) (base : Nat) (args : Array Value) (hval : ∀ (j : Nat) t v, Try.f4.params[j]? = some t → args[j]? = some v → Value.okWide Try.prog W .any base t v) (hsz : args.toList.length = 2) :
    Calls Try.prog 4 args W fun e W' => e = .returned (.bool true) ∧ Below W.heap.size W W' := by
  obtain ⟨v0, v1, rfl⟩ : ∃ v0 v1, args = #[v0, v1] := by
    match args, hsz with
    | ⟨[v0, v1]⟩, _ => exact ⟨v0, v1, rfl⟩
  obtain ⟨xs, hn, rfl, hx⟩ := okWide_ints (n := 4) (k := .i64) (ts := [3, 3, 3, 3]) (by rw [Try.underlying22]) (by kernel_rfl) (by kernel_rfl) (by kernel_rfl) (hval 0 22 v0 rfl rfl)
  obtain ⟨f, rfl, hf⟩ := okWide_int_has Try.underlying3 (hval 1 3 v1 rfl rfl)
  match xs, hn with
  | [a, b, c, d], _ => exact small_any a b c d f W (hx a (by simp)) (hx b (by simp)) (hx c (by simp)) (hx d (by simp)) hf

set_option maxRecDepth 100000 in
theorem lifted (os : Os) (started : os.Started) (H : Type) (enc : TypeId × Value → H) :
    ReturnsInHanded {} Try.checked os 4 .any (Rows.exactSmallSpec.pre6 enc Try.prog Try.f4 Rows.exactSmallRow.domain false) (Rows.exactSmallSpec.post enc Try.prog Try.f4 false true false false) := by
  refine returnsInHanded_of_change (C := Try.checked) own started (by kernel_rfl) Try.func4
    (ChangeSpec.witness6 (enc := enc) (C := Try.checked) false ⟨#[], #[.agg #[.int .i64 0, .int .i64 0, .int .i64 0, .int .i64 0], .int .i64 0], []⟩ 8 (by kernel_rfl) (by kernel_rfl) (by kernel_rfl) (by kernel_rfl)) ?_
  intro W base args ds gs before hval0 hW hcnd _
  exact law_calls 4 laidOut (by kernel_rfl) rfl rfl Try.underlying4 (fun ds h => match ds, h with | [_, _], _ => rfl) hW (fun hsz _ => walk W base args hval0 hsz)

theorem over : Rows.exactSmallRow.holds Try.pinned (OpenSpec.ofChange Rows.exactSmallSpec) :=
  OpenClaim.holds_of_wide 4 Try.f4 rfl rfl rfl rfl rfl rfl rfl ⟨rfl, rfl, rfl, rfl, rfl⟩ rfl rfl rfl rfl rfl (by kernel_rfl) Try.func4 (by kernel_rfl)
    (of_decide_eq_true (by kernel_rfl)) (by unfold Func.isWrapper; first | (rw [if_pos (by decide +kernel)]; kernel_rfl) | (rw [if_neg (by decide +kernel)]; exact ⟨rfl, rfl⟩))
    (fun os started H enc _ => lifted os started H enc)

theorem proved : Rows.ExactSmallSaid := over
#print axioms proved
end Go.Proofs.Ytddkbmaoeppckaa.exactSmall

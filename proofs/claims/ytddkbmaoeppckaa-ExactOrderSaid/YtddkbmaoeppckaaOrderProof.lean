/-
  'ExactOrder': for every three ratios (made right) and two ints the function returns true: Cmp is an order of right ratios, in which whole numbers are as they are; a ratio that is not right is compared with nothing. The arguments read as they did.
-/
import Derived.Test.YtddkbmaoeppckaaA7
import Derived.Test.YtddkbmaoeppckaaFrame
namespace Go.Proofs.Ytddkbmaoeppckaa
open Go.RowKit

theorem sign_pos_mul {d x : Int} (h : 0 < d) : (d * x).sign = x.sign := by rw [Int.sign_mul, Int.sign_eq_one_of_pos h, Int.one_mul]

theorem cmpR_right {n d m e : Int} (hd : 1 ≤ d) (he : 1 ≤ e) : cmpR n d m e = (n * e - m * d).sign := by
  unfold cmpR; rw [if_neg (by omega)]; rfl

theorem cmpR_order {n d m e o f : Int} (hd : 1 ≤ d) (he : 1 ≤ e) (hf : 1 ≤ f) :
    cmpR m e n d = -cmpR n d m e ∧ (cmpR n d m e = 0 → cmpR m e o f = cmpR n d o f) ∧ (0 < cmpR n d m e → 0 < cmpR m e o f → ¬ cmpR n d o f ≤ 0) ∧
      (cmpR n d m e < 0 → cmpR m e o f < 0 → ¬ 0 ≤ cmpR n d o f) ∧ cmpR n d n d = 0 := by
  rw [cmpR_right hd he, cmpR_right he hd, cmpR_right he hf, cmpR_right hd hf, cmpR_right hd hd]
  have hid : e * (n * f - o * d) = f * (n * e - m * d) + d * (m * f - o * e) := by grind
  have hR := sign_pos_mul (d := e) (x := n * f - o * d) (by omega)
  have hP := sign_pos_mul (d := f) (x := n * e - m * d) (by omega)
  have hQ := sign_pos_mul (d := d) (x := m * f - o * e) (by omega)
  have h1 : (m * d - n * e).sign = -(n * e - m * d).sign := by rw [← Int.sign_neg]; congr 1; omega
  rw [← hR, ← hQ]
  refine ⟨h1, ?_, ?_, ?_, ?_⟩
  · rw [← hP]
    intro h
    have h2 : f * (n * e - m * d) = 0 := Int.sign_eq_zero_iff_zero.1 h
    rw [hid, h2, Int.zero_add]
  · rw [← hP]
    intro h h'
    have a1 := Int.sign_eq_one_iff_pos.1 (by rcases sign_cases (f * (n * e - m * d)) with k | k | k <;> omega)
    have a2 := Int.sign_eq_one_iff_pos.1 (by rcases sign_cases (d * (m * f - o * e)) with k | k | k <;> omega)
    rw [Int.sign_eq_one_of_pos (by omega)]
    decide
  · rw [← hP]
    intro h h'
    have a1 := Int.sign_eq_neg_one_iff_neg.1 (by rcases sign_cases (f * (n * e - m * d)) with k | k | k <;> omega)
    have a2 := Int.sign_eq_neg_one_iff_neg.1 (by rcases sign_cases (d * (m * f - o * e)) with k | k | k <;> omega)
    rw [Int.sign_eq_neg_one_of_neg (by omega)]
    decide
  · rw [Int.sub_self]; rfl

theorem cmpR_ints (n m : Int) : (n < m → cmpR n 1 m 1 = -1) ∧ (m < n → cmpR n 1 m 1 = 1) ∧ (m ≤ n → n ≤ m → cmpR n 1 m 1 = 0) := by
  rw [cmpR_right (by decide) (by decide), Int.mul_one, Int.mul_one]
  refine ⟨fun h => Int.sign_eq_neg_one_of_neg (by omega), fun h => Int.sign_eq_one_of_pos (by omega), fun h h' => ?_⟩
  rw [show n - m = 0 from by omega]; rfl

theorem cmpR_wrong {n d m e : Int} (h : d < 1) : cmpR n d m e = 0 := by unfold cmpR; rw [if_pos (.inl h)]
theorem cmpR_bd (n d m e : Int) : -1 ≤ cmpR n d m e ∧ cmpR n d m e ≤ 1 := by
  unfold cmpR; split
  · decide
  · exact sgn_bd _

set_option maxRecDepth 100000 in
set_option maxHeartbeats 2000000 in
theorem order_any (n0 d0 n1 d1 n2 d2 n m : Int) (w : World) (fn0 : fits n0) (fd0 : fits d0) (fn1 : fits n1) (fd1 : fits d1) (fn2 : fits n2) (fd2 : fits d2) (fn : fits n) (fm : fits m) :
    Calls Try.prog 5 #[.agg #[.int .i64 n0, .int .i64 d0, .int .i64 n1, .int .i64 d1, .int .i64 n2, .int .i64 d2], .int .i64 n, .int .i64 m] w fun r w' => r = .returned (.bool true) ∧ Below w.heap.size w w' := by
  have m00 := Int.emod_nonneg d0 (b := 4611686018427387904) (by decide)
  have m01 := Int.emod_lt_of_pos d0 (b := 4611686018427387904) (by decide)
  have m10 := Int.emod_nonneg d1 (b := 4611686018427387904) (by decide)
  have m11 := Int.emod_lt_of_pos d1 (b := 4611686018427387904) (by decide)
  have m20 := Int.emod_nonneg d2 (b := 4611686018427387904) (by decide)
  have m21 := Int.emod_lt_of_pos d2 (b := 4611686018427387904) (by decide)
  go_enter Try.func5, Try.ntmps5
  go_wp2_with (go_at_call 9; refine (sanity_any _).mono ?_; rintro e w' ⟨rfl, hb_⟩; obtain ⟨p, rfl⟩ := grow_of_below hb_; clear hb_)
  refine wp_loop_rounds 4 ?_
  rw [rounds_succ]
  go_wp2_with (go_at_call 14; refine (mod_any _ _ _ (by assumption) (by decide) (by decide)).mono ?_; rintro e w' ⟨rfl, rfl⟩)
  rw [rounds_succ]
  go_wp2_with (go_at_call 14; refine (mod_any _ _ _ (by assumption) (by decide) (by decide)).mono ?_; rintro e w' ⟨rfl, rfl⟩)
  rw [rounds_succ]
  go_wp2_with (go_at_call 14; refine (mod_any _ _ _ (by assumption) (by decide) (by decide)).mono ?_; rintro e w' ⟨rfl, rfl⟩)
  rw [rounds_succ]
  go_wp2_with fail
  obtain ⟨e0, he0⟩ : ∃ x, x = d0 % 4611686018427387904 + 1 := ⟨_, rfl⟩
  obtain ⟨e1, he1⟩ : ∃ x, x = d1 % 4611686018427387904 + 1 := ⟨_, rfl⟩
  obtain ⟨e2, he2⟩ : ∃ x, x = d2 % 4611686018427387904 + 1 := ⟨_, rfl⟩
  have a01 : 1 ≤ e0 := by omega
  have a02 : e0 ≤ 4611686018427387904 := by omega
  have a11 : 1 ≤ e1 := by omega
  have a21 : 1 ≤ e2 := by omega
  have fe0 : fits e0 := ⟨by omega, by omega⟩
  have fe1 : fits e1 := ⟨by omega, by omega⟩
  have fe2 : fits e2 := ⟨by omega, by omega⟩
  have fz : fits (-e0) := ⟨by omega, by omega⟩
  have f1 : fits 1 := fits_lit (by decide)
  rw [← he0, ← he1, ← he2]
  clear he0 he1 he2 m00 m01 m10 m11 m20 m21
  obtain ⟨h1, h2, h3, h4, h5⟩ := cmpR_order (n := n0) (m := n1) (o := n2) a01 a11 a21
  obtain ⟨g1, g2, g3⟩ := cmpR_ints n m
  have h6 := cmpR_wrong (n := n) (d := -e0) (m := n0) (e := e0) (by omega)
  obtain ⟨b0, b1⟩ := cmpR_bd n0 e0 n1 e1
  first | with_reducible refine wp_region_grow2 (by kernel_rfl) (by kernel_rfl) ?_ | with_reducible refine wp_region_grow (by kernel_rfl) (by kernel_rfl) ?_
  repeat (first | go_big_quiet_step ((go_at_call 12; exact Calls.grow_of (cmpr_any _ _ _ _ _ (by assumption) (by assumption) (by assumption) (by assumption)))) | quiet_step ((go_at_call 12; exact Calls.grow_of (cmpr_any _ _ _ _ _ (by assumption) (by assumption) (by assumption) (by assumption)))))
  refine wpQuiet_nil ?_
  intro _ hw_
  obtain ⟨p, hw_⟩ := hw_
  subst hw_
  go_wp2_with (go_at_call 12; refine (cmpr_any _ _ _ _ _ (by assumption) (by assumption) (by assumption) (by assumption)).mono ?_; rintro e w' ⟨rfl, hb_⟩; obtain ⟨p, rfl⟩ := grow_of_below hb_; clear hb_)
  all_goals
    go_ret
    exact ⟨rfl, (by repeat' (first | with_reducible exact Below.refl _ _ | with_reducible exact Nat.le_refl _ | with_reducible assumption | with_reducible refine Go.below_growBy' ?_ ?_ _ | with_reducible refine Below.alloc ?_ ?_ _ | with_reducible refine Below.setCell ?_ ?_ _ | with_reducible refine Below.drew ?_ | with_reducible refine Go.le_alloc ?_ | with_reducible refine Go.le_growBy ?_ | with_reducible refine Go.le_setCell ?_ | with_reducible refine Go.le_drew ?_ | omega))⟩
end Go.Proofs.Ytddkbmaoeppckaa
namespace Go.Proofs.Ytddkbmaoeppckaa.exactOrder
open Go.ChangeShapes Go.WideShapes Go.ChangeAt Go.RowKit
set_option linter.unusedVariables false

theorem own : ownKnob Try.prog.godebug = none := by kernel_rfl
theorem laidOut : laidOutB Try.prog = true := by kernel_rfl

theorem walk (W : World) (base : Nat) (args : Array Value) (hval : ∀ (j : Nat) t v, Try.f5.params[j]? = some t → args[j]? = some v → Value.okWide Try.prog W .any base t v) (hsz : args.toList.length = 3) :
    Calls Try.prog 5 args W fun e W' => e = .returned (.bool true) ∧ Below W.heap.size W W' := by
  obtain ⟨v0, v1, v2, rfl⟩ : ∃ v0 v1 v2, args = #[v0, v1, v2] := by
    match args, hsz with
    | ⟨[v0, v1, v2]⟩, _ => exact ⟨v0, v1, v2, rfl⟩
  obtain ⟨xs, hn, rfl, hx⟩ := okWide_ints (n := 6) (k := .i64) (ts := [3, 3, 3, 3, 3, 3]) (by rw [Try.underlying31]) (by kernel_rfl) (by kernel_rfl) (by kernel_rfl) (hval 0 31 v0 rfl rfl)
  obtain ⟨n, rfl, hf⟩ := okWide_int_has Try.underlying3 (hval 1 3 v1 rfl rfl)
  obtain ⟨m, rfl, hm⟩ := okWide_int_has Try.underlying3 (hval 2 3 v2 rfl rfl)
  match xs, hn with
  | [a, b, c, d, e, f], _ => exact order_any a b c d e f n m W (hx a (by simp)) (hx b (by simp)) (hx c (by simp)) (hx d (by simp)) (hx e (by simp)) (hx f (by simp)) hf hm

set_option maxRecDepth 100000 in
theorem lifted (os : Os) (started : os.Started) (H : Type) (enc : TypeId × Value → H) :
    ReturnsInHanded {} Try.checked os 5 .any (Rows.exactOrderSpec.pre6 enc Try.prog Try.f5 Rows.exactOrderRow.domain false) (Rows.exactOrderSpec.post enc Try.prog Try.f5 false true false false) := by
  refine returnsInHanded_of_change (C := Try.checked) own started (by kernel_rfl) Try.func5
    (ChangeSpec.witness6 (enc := enc) (C := Try.checked) false ⟨#[], #[.agg #[.int .i64 0, .int .i64 0, .int .i64 0, .int .i64 0, .int .i64 0, .int .i64 0], .int .i64 0, .int .i64 0], []⟩ 8 (by kernel_rfl) (by kernel_rfl) (by kernel_rfl) (by kernel_rfl)) ?_
  intro W base args ds gs before hval0 hW hcnd _
  exact law_calls 4 laidOut (by kernel_rfl) rfl rfl Try.underlying4 (fun ds h => match ds, h with | [_, _, _], _ => rfl) hW (fun hsz _ => walk W base args hval0 hsz)

theorem over : Rows.exactOrderRow.holds Try.pinned (OpenSpec.ofChange Rows.exactOrderSpec) :=
  OpenClaim.holds_of_wide 5 Try.f5 rfl rfl rfl rfl rfl rfl rfl ⟨rfl, rfl, rfl, rfl, rfl⟩ rfl rfl rfl rfl rfl (by kernel_rfl) Try.func5 (by kernel_rfl)
    (of_decide_eq_true (by kernel_rfl)) (by unfold Func.isWrapper; first | (rw [if_pos (by decide +kernel)]; kernel_rfl) | (rw [if_neg (by decide +kernel)]; exact ⟨rfl, rfl⟩))
    (fun os started H enc _ => lifted os started H enc)

theorem proved : Rows.ExactOrderSaid := over
#print axioms proved
end Go.Proofs.Ytddkbmaoeppckaa.exactOrder

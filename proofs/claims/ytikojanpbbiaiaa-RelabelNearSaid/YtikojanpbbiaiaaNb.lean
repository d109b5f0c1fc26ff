/-
  Shaken out of the text X1.
-/
import Derived.Test.YtikojanpbbiaiaaZv
import Derived.Test.YtikojanpbbiaiaaNa
import Derived.BigQuiet
import Derived.Deep.QuietTactic
namespace Go.Proofs.Ytikojanpbbiaiaa
set_option linter.unusedVariables false
set_option linter.unusedSimpArgs false
open Go.RowKit Go.Shelf
set_option maxHeartbeats 400000 in
theorem rsize_any (n : Int) (w : World) (h0 : -9223372036854775808 ≤ n) (h1 : n ≤ 9223372036854775807) :
    Calls Try.prog 116 #[.int .i64 n] w fun e w' => e = .returned (.int .u64 n.natAbs) ∧ w = w' := by
  by_cases h : n < 0
  · go_enter Try.func116, Try.ntmps116
    go_wp2
    go_ret
    exact ⟨ret_int (by rw [IntKind.wrap_u64, IntKind.wrap_u64]; omega), rfl⟩
  · go_enter Try.func116, Try.ntmps116
    go_wp2
    go_ret
    exact ⟨ret_int (by omega), rfl⟩
set_option maxHeartbeats 400000 in
theorem rsgn_any (n : Int) (w : World) :
    Calls Try.prog 114 #[.int .i64 n] w fun e w' => e = .returned (.int .i64 n.sign) ∧ w = w' := by
  rcases Int.lt_trichotomy n 0 with h | h | h
  · have h1 : ¬ (0 < n) := by omega
    go_enter Try.func114, Try.ntmps114
    go_wp2
    go_ret
    exact ⟨ret_int (Int.sign_eq_neg_one_of_neg h).symm, rfl⟩
  · subst h
    go_enter Try.func114, Try.ntmps114
    go_wp2
    go_ret
    exact ⟨rfl, rfl⟩
  · have h1 : ¬ (n < 0) := by omega
    go_enter Try.func114, Try.ntmps114
    go_wp2
    go_ret
    exact ⟨ret_int (Int.sign_eq_one_of_pos h).symm, rfl⟩
set_option maxHeartbeats 400000 in
theorem rproduct_any (a b : Nat) (w : World) (ha : a < 18446744073709551616) (hb : b < 18446744073709551616) :
    Calls Try.prog 115 #[.int .u64 a, .int .u64 b] w fun e w' => e = .returned (.agg #[.int .u64 (hiN a b), .int .u64 (loN a b)]) ∧ Below w.heap.size w w' := by
  have hh := hi_walk a b ha hb _ (mid_walk a b ha hb)
  rw [Int.add_comm (bits .and .u64 _ _)] at hh
  have H := Lib.hid hh
  clear hh
  go_enter Try.func115, Try.ntmps115
  go_wp2
  refine bodyPost_ret (v := .agg #[.int .u64 (hiN a b), .int .u64 (loN a b)]) ?_ rfl ⟨rfl, ?_⟩
  · rw [show hiN a b = _ from H.out.symm, show loN a b = _ from (lo_walk a b).symm]; simp [results, Try.results115, go_sem]
  · exact (Below.refl _ _).alloc (Nat.le_refl _) _
theorem bcell {W w1 : World} (hb : Below W.heap.size W w1) : (∀ b o, b < W.heap.size → w1.cell? ⟨b, o, none⟩ = W.cell? ⟨b, o, none⟩) ∧ (∀ b o, b < W.heap.size → w1.frozen? ⟨b, o, none⟩ = W.frozen? ⟨b, o, none⟩) :=
  ⟨fun b o h => hb.cell (p := ⟨b, o, none⟩) h, fun b o h => hb.frozen (p := ⟨b, o, none⟩) h⟩

theorem sgn_bd (n : Int) : -1 ≤ n.sign ∧ n.sign ≤ 1 := by rcases sign_cases n with h | h | h <;> rw [h] <;> decide
theorem sgn_mul_bd (a b : Int) : -1 ≤ a.sign * b.sign ∧ a.sign * b.sign ≤ 1 := by rw [← Int.sign_mul]; exact sgn_bd _
theorem cmp2_nat (a b c d : Nat) : cmp2 (hiN a b) (loN a b) (hiN c d) (loN c d) = cmpI ((a * b : Nat) : Int) ((c * d : Nat) : Int) := cmp2_words _ _

theorem natAbs_lt (a : Int) (a0 : -9223372036854775808 ≤ a) (a1 : a ≤ 9223372036854775807) : a.natAbs < 18446744073709551616 := by omega

theorem drewN_below {B : Nat} {a w : World} (h : Below B a w) : ∀ n, Below B a (w.drewN n)
  | 0 => h
  | n + 1 => by
    have := drewN_below h n
    exact ⟨this.os, this.tape, this.output, this.size, this.block⟩

theorem closeB {w w1 w2 : World} {o1 o2 : Obj} (hb1 : Below w.heap.size w w1) (hb2 : Below (w1.alloc o1).heap.size (w1.alloc o1) w2) (n : Nat) : Below w.heap.size w ((w2.alloc o2).drewN n) := by
  have h1 := hb1.size
  have h2 := hb2.size
  simp at h2
  exact drewN_below (((hb1.alloc h1 o1).trans (hb2.mono (by simp; omega))).alloc (by omega) o2) n

theorem cmp2_gt (a b c d : Int) (h : c < a) : cmp2 a b c d = 1 := by unfold cmp2; rw [cmpI_gt h, if_neg (by decide)]
theorem cmp2_lt (a b c d : Int) (h : a < c) : cmp2 a b c d = -1 := by unfold cmp2; rw [cmpI_lt h, if_neg (by decide)]
theorem cmp2_same (a b d : Int) : cmp2 a b a d = cmpI b d := by unfold cmp2; rw [cmpI_eq, if_pos rfl]

set_option maxHeartbeats 1000000 in
theorem rsign2_any (a b c d : Int) (w : World) (a0 : -9223372036854775808 ≤ a) (a1 : a ≤ 9223372036854775807) (b0 : -9223372036854775808 ≤ b) (b1 : b ≤ 9223372036854775807)
    (c0 : -9223372036854775808 ≤ c) (c1 : c ≤ 9223372036854775807) (d0 : -9223372036854775808 ≤ d) (d1 : d ≤ 9223372036854775807) :
    Calls Try.prog 112 #[.int .i64 a, .int .i64 b, .int .i64 c, .int .i64 d] w fun e w' => e = .returned (.int .i64 (sign2 a b c d)) ∧ Below w.heap.size w w' := by
  obtain ⟨p0, p1⟩ := sgn_mul_bd a b
  obtain ⟨q0, q1⟩ := sgn_mul_bd c d
  by_cases h : a.sign * b.sign = c.sign * d.sign
  · have hb : (a.sign * b.sign != c.sign * d.sign) = false := by simp [h]
    have HE : Hid (a.sign * b.sign * cmp2 (hiN a.natAbs b.natAbs) (loN a.natAbs b.natAbs) (hiN c.natAbs d.natAbs) (loN c.natAbs d.natAbs) = sign2 a b c d) := by rw [cmp2_nat]; exact sign2_eq h
    clear h
    go_enter Try.func112, Try.ntmps112
    go_wp2_with (first | (go_at_call 114; refine (rsgn_any _ _).mono ?_; rintro e w' ⟨rfl, rfl⟩) | (go_at_call 116; refine (rsize_any _ _ (by assumption) (by assumption)).mono ?_; rintro e w' ⟨rfl, rfl⟩))
    refine (rproduct_any _ _ _ (natAbs_lt a a0 a1) (natAbs_lt b b0 b1)).mono ?_
    rintro e w1 ⟨rfl, hb1⟩
    go_wp2_with (first | (go_at_call 114; refine (rsgn_any _ _).mono ?_; rintro e w' ⟨rfl, rfl⟩) | (go_at_call 116; refine (rsize_any _ _ (by assumption) (by assumption)).mono ?_; rintro e w' ⟨rfl, rfl⟩))
    refine (rproduct_any _ _ _ (natAbs_lt c c0 c1) (natAbs_lt d d0 d1)).mono ?_
    rintro e w2 ⟨rfl, hb2⟩
    generalize hiN a.natAbs b.natAbs = x0 at *
    generalize loN a.natAbs b.natAbs = x1 at *
    generalize hiN c.natAbs d.natAbs = y0 at *
    generalize loN c.natAbs d.natAbs = y1 at *
    have hc0 : w2.cell? ⟨w1.heap.size, 0, none⟩ = some (.int .u64 x0) := by rw [(bcell hb2).1 _ _ (by simp)]; simp
    have hc1 : w2.cell? ⟨w1.heap.size, 1, none⟩ = some (.int .u64 x1) := by rw [(bcell hb2).1 _ _ (by simp)]; simp
    have hz : w1.heap.size < w2.heap.size := by have := hb2.size; simp at this; omega
    go_wp2_with fail
    refine wp_loop_rounds 3 ?_
    rw [rounds_succ]
    rcases Int.lt_trichotomy x0 y0 with hx | hx | hx
    · have hn : ¬ y0 < x0 := by omega
      have HF := Lib.hid (cmp2_lt x0 x1 y0 y1 hx)
      go_wp2_with fail
      go_quiet (fail)
      go_wp2_with fail
      go_quiet (fail)
      go_wp2_with fail
      go_ret
      exact ⟨ret_int (by have h1 := HE.out; rw [HF.out] at h1; omega), by first | exact closeB hb1 hb2 _ | exact drewN_below (closeB hb1 hb2 _) _⟩
    · subst hx
      rcases Int.lt_trichotomy x1 y1 with hx | hx | hx
      · have hn : ¬ y1 < x1 := by omega
        have HF := Lib.hid ((cmp2_same x0 x1 y1).trans (cmpI_lt hx))
        go_wp2_with fail
        go_quiet (fail)
        go_wp2_with fail
        go_quiet (fail)
        go_wp2_with fail
        rw [rounds_succ]
        go_wp2_with fail
        go_quiet (fail)
        go_wp2_with fail
        go_quiet (fail)
        go_wp2_with fail
        go_ret
        exact ⟨ret_int (by have h1 := HE.out; rw [HF.out] at h1; omega), by first | exact closeB hb1 hb2 _ | exact drewN_below (closeB hb1 hb2 _) _⟩
      · subst hx
        have HF := Lib.hid ((cmp2_same x0 x1 x1).trans (cmpI_eq x1))
        go_wp2_with fail
        go_quiet (fail)
        go_wp2_with fail
        go_quiet (fail)
        go_wp2_with fail
        rw [rounds_succ]
        go_wp2_with fail
        go_quiet (fail)
        go_wp2_with fail
        go_quiet (fail)
        go_wp2_with fail
        rw [rounds_succ]
        go_wp2_with fail
        go_ret
        exact ⟨ret_int (by have h1 := HE.out; rw [HF.out] at h1; omega), by first | exact closeB hb1 hb2 _ | exact drewN_below (closeB hb1 hb2 _) _⟩
      · have hn : ¬ x1 < y1 := by omega
        have HF := Lib.hid ((cmp2_same x0 x1 y1).trans (cmpI_gt hx))
        go_wp2_with fail
        go_quiet (fail)
        go_wp2_with fail
        go_quiet (fail)
        go_wp2_with fail
        rw [rounds_succ]
        go_wp2_with fail
        go_quiet (fail)
        go_wp2_with fail
        go_ret
        exact ⟨ret_int (by have h1 := HE.out; rw [HF.out] at h1; omega), by first | exact closeB hb1 hb2 _ | exact drewN_below (closeB hb1 hb2 _) _⟩
    · have hn : ¬ x0 < y0 := by omega
      have HF := Lib.hid (cmp2_gt x0 x1 y0 y1 hx)
      go_wp2_with fail
      go_quiet (fail)
      go_wp2_with fail
      go_ret
      exact ⟨ret_int (by have h1 := HE.out; rw [HF.out] at h1; omega), by first | exact closeB hb1 hb2 _ | exact drewN_below (closeB hb1 hb2 _) _⟩
  · have HE := Lib.hid (sign2_ne h)
    have hb : (a.sign * b.sign != c.sign * d.sign) = true := by simp [h]
    clear h
    go_enter Try.func112, Try.ntmps112
    go_wp2_with (go_at_call 114; refine (rsgn_any _ _).mono ?_; rintro e w' ⟨rfl, rfl⟩)
    go_ret
    exact ⟨ret_int HE.out, Below.refl _ _⟩
end Go.Proofs.Ytikojanpbbiaiaa

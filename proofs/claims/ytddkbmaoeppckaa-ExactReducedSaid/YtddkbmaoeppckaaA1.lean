import Derived.Test.YtddkbmaoeppckaaRows
import Derived.Test.YtddkbmaoeppckaaP1
import Derived.Test.YtddkbmaoeppckaaP2
import Derived.WalkKit
import Derived.WalkSpells
import Derived.WalkLawsBesides
import Derived.Lib.Hide
namespace Go.Proofs.Ytddkbmaoeppckaa
open Go.RowKit

theorem ret_int {k : IntKind} {a b : Int} (h : a = b) : Ending.returned (.int k a) = .returned (.int k b) := by rw [h]
theorem ret_int2 {k : IntKind} {a b c d : Int} (h : a = b) (h' : c = d) : Ending.returned (.tuple #[.int k a, .int k c]) = .returned (.tuple #[.int k b, .int k d]) := by rw [h, h']
theorem ret_agg2 {k : IntKind} {a b c d : Int} (h : a = b) (h' : c = d) : Ending.returned (.agg #[.int k a, .int k c]) = .returned (.agg #[.int k b, .int k d]) := by rw [h, h']

set_option maxHeartbeats 400000 in
theorem cmp_any (a b : Int) (w : World) :
    Calls Try.prog 31 #[.int .i64 a, .int .i64 b] w fun e w' => e = .returned (.int .i64 (cmpI a b)) ∧ w = w' := by
  rcases Int.lt_trichotomy a b with h | h | h
  · have h1 : ¬ (b < a) := by omega
    go_enter Try.func31, Try.ntmps31
    go_wp2
    go_ret
    exact ⟨ret_int (cmpI_lt h).symm, rfl⟩
  · subst h
    go_enter Try.func31, Try.ntmps31
    go_wp2
    go_ret
    exact ⟨ret_int (cmpI_eq a).symm, rfl⟩
  · have h1 : ¬ (a < b) := by omega
    go_enter Try.func31, Try.ntmps31
    go_wp2
    go_ret
    exact ⟨ret_int (cmpI_gt h).symm, rfl⟩
set_option maxHeartbeats 400000 in
theorem sgn_any (n : Int) (w : World) :
    Calls Try.prog 22 #[.int .i64 n] w fun e w' => e = .returned (.int .i64 n.sign) ∧ w = w' := by
  go_enter Try.func22, Try.ntmps22
  go_wp2_with (go_at_call 31; refine (cmp_any _ _ _).mono ?_; rintro e w' ⟨rfl, rfl⟩)
  go_ret
  exact ⟨ret_int (by simp [cmpI]), rfl⟩
set_option maxHeartbeats 400000 in
theorem cmpu_any (a b : Int) (w : World) :
    Calls Try.prog 33 #[.int .u64 a, .int .u64 b] w fun e w' => e = .returned (.int .i64 (cmpI a b)) ∧ w = w' := by
  rcases Int.lt_trichotomy a b with h | h | h
  · have h1 : ¬ (b < a) := by omega
    go_enter Try.func33, Try.ntmps33
    go_wp2
    go_ret
    exact ⟨ret_int (cmpI_lt h).symm, rfl⟩
  · subst h
    go_enter Try.func33, Try.ntmps33
    go_wp2
    go_ret
    exact ⟨ret_int (cmpI_eq a).symm, rfl⟩
  · have h1 : ¬ (a < b) := by omega
    go_enter Try.func33, Try.ntmps33
    go_wp2
    go_ret
    exact ⟨ret_int (cmpI_gt h).symm, rfl⟩
set_option maxHeartbeats 400000 in
theorem sgnu_any (n : Int) (w : World) :
    Calls Try.prog 30 #[.int .u64 n] w fun e w' => e = .returned (.int .i64 n.sign) ∧ w = w' := by
  go_enter Try.func30, Try.ntmps30
  go_wp2_with (go_at_call 33; refine (cmpu_any _ _ _).mono ?_; rintro e w' ⟨rfl, rfl⟩)
  go_ret
  exact ⟨ret_int (by simp [cmpI]), rfl⟩
set_option maxHeartbeats 400000 in
theorem size_any (n : Int) (w : World) (h0 : -9223372036854775808 ≤ n) (h1 : n ≤ 9223372036854775807) :
    Calls Try.prog 29 #[.int .i64 n] w fun e w' => e = .returned (.int .u64 n.natAbs) ∧ w = w' := by
  by_cases h : n < 0
  · go_enter Try.func29, Try.ntmps29
    go_wp2
    go_ret
    exact ⟨ret_int (by rw [IntKind.wrap_u64, IntKind.wrap_u64]; omega), rfl⟩
  · go_enter Try.func29, Try.ntmps29
    go_wp2
    go_ret
    exact ⟨ret_int (by omega), rfl⟩
set_option maxHeartbeats 400000 in
theorem rsize_any (n : Int) (w : World) (h0 : -9223372036854775808 ≤ n) (h1 : n ≤ 9223372036854775807) :
    Calls Try.prog 27 #[.int .i64 n] w fun e w' => e = .returned (.int .u64 n.natAbs) ∧ w = w' := by
  by_cases h : n < 0
  · go_enter Try.func27, Try.ntmps27
    go_wp2
    go_ret
    exact ⟨ret_int (by rw [IntKind.wrap_u64, IntKind.wrap_u64]; omega), rfl⟩
  · go_enter Try.func27, Try.ntmps27
    go_wp2
    go_ret
    exact ⟨ret_int (by omega), rfl⟩
set_option maxHeartbeats 400000 in
theorem rsgn_any (n : Int) (w : World) :
    Calls Try.prog 25 #[.int .i64 n] w fun e w' => e = .returned (.int .i64 n.sign) ∧ w = w' := by
  rcases Int.lt_trichotomy n 0 with h | h | h
  · have h1 : ¬ (0 < n) := by omega
    go_enter Try.func25, Try.ntmps25
    go_wp2
    go_ret
    exact ⟨ret_int (Int.sign_eq_neg_one_of_neg h).symm, rfl⟩
  · subst h
    go_enter Try.func25, Try.ntmps25
    go_wp2
    go_ret
    exact ⟨rfl, rfl⟩
  · have h1 : ¬ (n < 0) := by omega
    go_enter Try.func25, Try.ntmps25
    go_wp2
    go_ret
    exact ⟨ret_int (Int.sign_eq_one_of_pos h).symm, rfl⟩
set_option maxHeartbeats 400000 in
theorem mul64_any (a b : Nat) (w : World) (ha : a < 18446744073709551616) (hb : b < 18446744073709551616) :
    Calls Try.prog 32 #[.int .u64 a, .int .u64 b] w fun e w' => e = .returned (.tuple #[.int .u64 (hiN a b), .int .u64 (loN a b)]) ∧ w = w' := by
  go_enter Try.func32, Try.ntmps32
  go_wp2
  go_ret2
  exact ⟨ret_int2 (hi_walk a b ha hb _ (mid_walk a b ha hb)) (lo_walk a b), rfl⟩
set_option maxHeartbeats 400000 in
theorem rproduct_any (a b : Nat) (w : World) (ha : a < 18446744073709551616) (hb : b < 18446744073709551616) :
    Calls Try.prog 26 #[.int .u64 a, .int .u64 b] w fun e w' => e = .returned (.agg #[.int .u64 (hiN a b), .int .u64 (loN a b)]) ∧ Below w.heap.size w w' := by
  have hh := hi_walk a b ha hb _ (mid_walk a b ha hb)
  rw [Int.add_comm (bits .and .u64 _ _)] at hh
  have H := Lib.hid hh
  clear hh
  go_enter Try.func26, Try.ntmps26
  go_wp2
  refine bodyPost_ret (v := .agg #[.int .u64 (hiN a b), .int .u64 (loN a b)]) ?_ rfl ⟨rfl, ?_⟩
  · rw [show hiN a b = _ from H.out.symm, show loN a b = _ from (lo_walk a b).symm]; simp [results, Try.results26, go_sem]
  · exact (Below.refl _ _).alloc (Nat.le_refl _) _
set_option maxHeartbeats 400000 in
theorem times_any (a b : Int) (w : World) (a0 : -9223372036854775808 ≤ a) (a1 : a ≤ 9223372036854775807) (b0 : -9223372036854775808 ≤ b) (b1 : b ≤ 9223372036854775807) :
    Calls Try.prog 23 #[.int .i64 a, .int .i64 b] w fun e w' => e = .returned (.agg #[.int .u64 (hiN a.natAbs b.natAbs), .int .u64 (loN a.natAbs b.natAbs)]) ∧ Below w.heap.size w w' := by
  go_enter Try.func23, Try.ntmps23
  go_wp2_with (first | (go_at_call 29; refine (size_any _ _ (by assumption) (by assumption)).mono ?_; rintro e w' ⟨rfl, rfl⟩) | (go_at_call 32; refine (mul64_any _ _ _ (by omega) (by omega)).mono ?_; rintro e w' ⟨rfl, rfl⟩))
  exact bodyPost_ret (v := .agg #[.int .u64 (hiN a.natAbs b.natAbs), .int .u64 (loN a.natAbs b.natAbs)]) (by simp [results, Try.results23, go_sem]) rfl ⟨rfl, (Below.refl _ _).alloc (Nat.le_refl _) _⟩
set_option maxHeartbeats 400000 in
theorem compare_any (h l h' l' : Int) (w : World) :
    Calls Try.prog 24 #[.agg #[.int .u64 h, .int .u64 l], .agg #[.int .u64 h', .int .u64 l']] w fun e w' => e = .returned (.int .i64 (cmp2 h l h' l')) ∧ Below w.heap.size w w' := by
  by_cases hc : cmpI h h' = 0
  · have hb : ((cmpI h h') != 0) = false := by simp [hc]
    have Hc := Lib.hid hc
    clear hc
    go_enter Try.func24, Try.ntmps24
    go_wp2_with (go_at_call 33; refine (cmpu_any _ _ _).mono ?_; rintro e w' ⟨rfl, rfl⟩)
    go_ret
    exact ⟨ret_int (by unfold cmp2; rw [if_pos Hc.out]), ((Below.refl _ _).alloc (Nat.le_refl _) _).alloc (by simp) _⟩
  · have hb : ((cmpI h h') != 0) = true := by simp [hc]
    have Hc := Lib.hid hc
    clear hc
    go_enter Try.func24, Try.ntmps24
    go_wp2_with (go_at_call 33; refine (cmpu_any _ _ _).mono ?_; rintro e w' ⟨rfl, rfl⟩)
    go_ret
    exact ⟨ret_int (by unfold cmp2; rw [if_neg Hc.out]), ((Below.refl _ _).alloc (Nat.le_refl _) _).alloc (by simp) _⟩
end Go.Proofs.Ytddkbmaoeppckaa

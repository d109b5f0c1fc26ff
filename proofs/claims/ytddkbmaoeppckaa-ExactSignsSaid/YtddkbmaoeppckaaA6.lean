import Derived.Test.YtddkbmaoeppckaaA5
import Derived.Test.YtddkbmaoeppckaaTools
namespace Go.Proofs.Ytddkbmaoeppckaa
open Go.RowKit

/-- the four contracts of calls, with 'fits' -/
theorem c_sign2 (a b c d : Int) (w : World) (ha : fits a) (hb : fits b) (hc : fits c) (hd : fits d) :
    Calls Try.prog 10 #[.int .i64 a, .int .i64 b, .int .i64 c, .int .i64 d] w fun e w' => e = .returned (.int .i64 (sign2 a b c d)) ∧ Below w.heap.size w w' := sign2_call _ a b c d w sign2_any ha hb hc hd
theorem c_rsign2 (a b c d : Int) (w : World) (ha : fits a) (hb : fits b) (hc : fits c) (hd : fits d) :
    Calls Try.prog 11 #[.int .i64 a, .int .i64 b, .int .i64 c, .int .i64 d] w fun e w' => e = .returned (.int .i64 (sign2 a b c d)) ∧ Below w.heap.size w w' := sign2_call _ a b c d w rsign2_any ha hb hc hd

theorem fits_of {n : Int} (h0 : -9223372036854775808 ≤ n) (h1 : n ≤ 9223372036854775807) : fits n := ⟨h0, h1⟩

/-- one ratio is another: as the model compares two structs of two ints -/
theorem lowest_any (n d m e : Int) (w : World) (hn : fits n) (hd : fits d) (h : 1 ≤ d) :
    Calls Try.prog 21 #[.int .i64 n, .int .i64 d, .int .i64 m, .int .i64 e] w fun r w' => r = .returned (.bool (lowN n d == m && lowD n d == e)) ∧ Below w.heap.size w w' := by
  go_enter Try.func21, Try.ntmps21
  go_wp2_with (go_at_call 17; refine (lowest_yes _ _ _ hn hd h).mono ?_; rintro e w' ⟨rfl, hb_⟩; obtain ⟨p, rfl⟩ := grow_of_below hb_; clear hb_)
  all_goals
    go_ret
    exact ⟨by simp [*], (by repeat' (first | with_reducible exact Below.refl _ _ | with_reducible exact Nat.le_refl _ | with_reducible assumption | with_reducible refine Go.below_growBy' ?_ ?_ _ | with_reducible refine Below.alloc ?_ ?_ _ | with_reducible refine Below.setCell ?_ ?_ _ | with_reducible refine Below.drew ?_ | with_reducible refine Go.le_alloc ?_ | with_reducible refine Go.le_growBy ?_ | with_reducible refine Go.le_setCell ?_ | with_reducible refine Go.le_drew ?_ | omega))⟩

set_option maxHeartbeats 1000000 in
theorem sanity_any (w : World) : Calls Try.prog 9 #[] w fun r w' => r = .returned (.bool true) ∧ Below w.heap.size w w' := by
  have s1 : (sign2 4611686018427387904 4 4611686018427387904 4 == 0) = true := by decide +kernel
  have s2 : (sign2 (-9223372036854775808) (-9223372036854775808) 9223372036854775807 9223372036854775807 == 1) = true := by decide +kernel
  have s3 : (sign2 (-9223372036854775808) 1 9223372036854775807 (-1) == -1) = true := by decide +kernel
  have s4 : (cmpR 1 3 2 6 == 0) = true := by decide +kernel
  have s5 : (cmpR (-1) 2 1 3 == -1) = true := by decide +kernel
  have s6 : (cmpR 1 0 1 3 == 0) = true := by decide +kernel
  have s7 : (root 15 == 3) = true := by decide +kernel
  have s8 : (root 16 == 4) = true := by decide +kernel
  have s9 : (root (-4) == 0) = true := by decide +kernel
  have s10 : (root 9223372036854775807 == 3037000499) = true := by decide +kernel
  have s11 : (gcdI (-12) 18 == 6) = true := by decide +kernel
  have s12 : (gcdI 0 (-5) == 5) = true := by decide +kernel
  have s13 : (gcdI 0 (-9223372036854775808) == 1) = true := by decide +kernel
  have s14 : (lowN (-6) 4 == -3 && lowD (-6) 4 == 2) = true := by decide +kernel
  have s15 : (lowN 0 7 == 0 && lowD 0 7 == 1) = true := by decide +kernel
  go_enter Try.func9, Try.ntmps9
  go_wp2_with (first | (go_at_call 10; refine (c_sign2 _ _ _ _ _ (fits_of (by decide) (by decide)) (fits_of (by decide) (by decide)) (fits_of (by decide) (by decide)) (fits_of (by decide) (by decide))).mono ?_; rintro e w' ⟨rfl, hb_⟩; obtain ⟨p, rfl⟩ := grow_of_below hb_; clear hb_) | (go_at_call 12; refine (cmpr_any _ _ _ _ _ (fits_of (by decide) (by decide)) (fits_of (by decide) (by decide)) (fits_of (by decide) (by decide)) (fits_of (by decide) (by decide))).mono ?_; rintro e w' ⟨rfl, hb_⟩; obtain ⟨p, rfl⟩ := grow_of_below hb_; clear hb_) | (go_at_call 15; refine (sqrt_any _ _ (fits_of (by decide) (by decide))).mono ?_; rintro e w' ⟨rfl, hb_⟩; obtain ⟨p, rfl⟩ := grow_of_below hb_; clear hb_) | (go_at_call 19; refine (gcd_any _ _ _ (fits_of (by decide) (by decide)) (fits_of (by decide) (by decide))).mono ?_; rintro e w' ⟨rfl, hb_⟩; obtain ⟨p, rfl⟩ := grow_of_below hb_; clear hb_) | (go_at_call 17; refine (lowest_no _ _ _ (by decide)).mono ?_; rintro e w' ⟨rfl, hb_⟩; obtain ⟨p, rfl⟩ := grow_of_below hb_; clear hb_) | (go_at_call 21; refine (lowest_any _ _ _ _ _ (fits_of (by decide) (by decide)) (fits_of (by decide) (by decide)) (by decide)).mono ?_; rintro e w' ⟨rfl, hb_⟩; obtain ⟨p, rfl⟩ := grow_of_below hb_; clear hb_))
  go_ret
  exact ⟨rfl, (by repeat' (first | with_reducible exact Below.refl _ _ | with_reducible exact Nat.le_refl _ | with_reducible assumption | with_reducible refine Go.below_growBy' ?_ ?_ _ | with_reducible refine Below.alloc ?_ ?_ _ | with_reducible refine Below.setCell ?_ ?_ _ | with_reducible refine Below.drew ?_ | with_reducible refine Go.le_alloc ?_ | with_reducible refine Go.le_growBy ?_ | with_reducible refine Go.le_setCell ?_ | with_reducible refine Go.le_drew ?_ | omega))⟩
end Go.Proofs.Ytddkbmaoeppckaa

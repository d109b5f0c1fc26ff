import Derived.Test.YtfcmmclialeepaaE2
namespace Go.Proofs.Ytfcmmclialeepaa
open Go.RowKit

theorem mod_mod (n m : Int) (hm : 1 ≤ m) : (n.tmod m + m) % m = n % m := by
  rw [Int.add_emod_right, Int.tmod_eq_emod]
  split
  · rw [Int.natCast_zero, Int.sub_zero, Int.emod_emod_of_dvd _ (Int.dvd_refl m)]
  · rw [Int.natAbs_of_nonneg (by omega), Int.sub_emod_right, Int.emod_emod_of_dvd _ (Int.dvd_refl m)]

set_option maxHeartbeats 400000 in
theorem mod_any (n m : Int) (w : World) (hn : fits n) (h1 : 1 ≤ m) (h2 : m ≤ 4611686018427387904) :
    Calls Try.prog 25 #[.int .i64 n, .int .i64 m] w fun r w' => r = .returned (.int .i64 (n % m)) ∧ w = w' := by
  obtain ⟨n0, n1⟩ := hn
  have b0 := Int.lt_tmod_of_pos n (b := m) (by omega)
  have b1 := Int.tmod_lt_of_pos n (b := m) (by omega)
  have b2 : 0 ≤ n.tmod m + m := by omega
  have b3 : n.tmod m + m ≤ 9223372036854775807 := by omega
  have h0 : (m == 0) = false := by simp; omega
  have HM := Lib.hid (mod_mod n m h1)
  go_enter Try.func25, Try.ntmps25
  go_wp2_with fail
  go_ret
  exact ⟨ret_int HM.out, rfl⟩
end Go.Proofs.Ytfcmmclialeepaa

import Derived.Test.YtddkbmaoeppckaaA3
namespace Go.Proofs.Ytddkbmaoeppckaa
open Go.RowKit

/-! ### lowest terms -/
def lowN (n d : Int) : Int := n.tdiv (gcdI n d)
def lowD (n d : Int) : Int := d / gcdI n d

theorem gcdI_pos {n d : Int} (hd : 1 ≤ d) (hd2 : d ≤ 9223372036854775807) : gcdI n d = (Nat.gcd n.natAbs d.natAbs : Nat) ∧ 1 ≤ gcdI n d ∧ gcdI n d ≤ d := by
  have h1 : Nat.gcd n.natAbs d.natAbs ≤ d.natAbs := Nat.gcd_le_right _ (by omega)
  have h2 : 0 < Nat.gcd n.natAbs d.natAbs := Nat.gcd_pos_of_pos_right _ (by omega)
  unfold gcdI
  rw [if_pos (by omega)]
  omega

theorem tdiv_bd {n g : Int} (hn : fits n) (hg : 1 ≤ g) : fits (n.tdiv g) := by
  have h1 : (n.tdiv g).natAbs ≤ n.natAbs := by rw [Int.natAbs_tdiv]; exact Nat.div_le_self _ _
  obtain ⟨a, b⟩ := hn
  by_cases h : n = -9223372036854775808
  · have h0 : n.tdiv g ≤ 0 := by
      have : (-n).tdiv g ≥ 0 := Int.tdiv_nonneg (by omega) (by omega)
      rw [Int.neg_tdiv] at this; omega
    exact ⟨by omega, by omega⟩
  · exact ⟨by omega, by omega⟩

theorem low_fits {n d : Int} (hn : fits n) (hd : fits d) (h : 1 ≤ d) : fits (lowN n d) ∧ fits (lowD n d) :=
  ⟨tdiv_bd hn (gcdI_pos h hd.2).2.1, by
    have hg := (gcdI_pos (n := n) h hd.2).2.1
    have h1 : lowD n d ≤ d := Int.ediv_le_self _ (by omega)
    have h2 : 0 ≤ lowD n d := Int.ediv_nonneg (by omega) (by omega)
    exact ⟨by omega, Int.le_trans h1 hd.2⟩⟩

theorem wrap_fits {n : Int} (h : fits n) : IntKind.i64.wrap n = n := IntWalk.i64_in _ h

set_option maxHeartbeats 1000000 in
theorem lowest_no (n d : Int) (w : World) (h : d < 1) :
    Calls Try.prog 17 #[.agg #[.int .i64 n, .int .i64 d]] w fun r w' => r = .returned (.tuple #[.agg #[.int .i64 0, .int .i64 0], .bool false]) ∧ Below w.heap.size w w' := by
  go_enter Try.func17, Try.ntmps17
  go_wp2_with fail
  exact bodyPost_ret (v := .tuple #[.agg #[.int .i64 0, .int .i64 0], .bool false]) (by simp [results, Try.results17, go_sem]) rfl ⟨rfl, below_box2 _ _ _⟩

set_option maxHeartbeats 1000000 in
theorem lowest_yes (n d : Int) (w : World) (hn : fits n) (hd : fits d) (h : 1 ≤ d) :
    Calls Try.prog 17 #[.agg #[.int .i64 n, .int .i64 d]] w fun r w' => r = .returned (.tuple #[.agg #[.int .i64 (lowN n d), .int .i64 (lowD n d)], .bool true]) ∧ Below w.heap.size w w' := by
  have h1 : ¬ d < 1 := by omega
  have hgp := gcdI_pos (n := n) h hd.2
  obtain ⟨-, hg1, hg2⟩ := hgp
  have hn' := hn
  have hd' := hd
  obtain ⟨n0, n1⟩ := hn'
  obtain ⟨d0, d1⟩ := hd'
  go_enter Try.func17, Try.ntmps17
  go_wp2_with fail
  refine (gcd_any _ _ _ hn hd).mono ?_
  rintro e w1 ⟨rfl, hb1⟩
  obtain ⟨hc, hf⟩ := bcell hb1
  have c0 : w1.cell? ⟨w.heap.size, 0, none⟩ = some (.int .i64 n) := by rw [hc _ _ (by simp; omega)]; simp
  have c1 : w1.cell? ⟨w.heap.size, 1, none⟩ = some (.int .i64 d) := by rw [hc _ _ (by simp; omega)]; simp
  have c2 : w1.cell? ⟨w.heap.size + 1, 0, none⟩ = some (.int .i64 0) := by rw [hc _ _ (by simp)]; simp
  have c3 : w1.cell? ⟨w.heap.size + 1, 1, none⟩ = some (.int .i64 0) := by rw [hc _ _ (by simp)]; simp
  have f2 : w1.frozen? ⟨w.heap.size + 1, 0, none⟩ = false := by rw [hf _ _ (by simp)]; simp
  have f3 : w1.frozen? ⟨w.heap.size + 1, 1, none⟩ = false := by rw [hf _ _ (by simp)]; simp
  clear hc hf
  go_wp2_with fail
  go_region
  all_goals
    go_wp2_with fail
    refine bodyPost_ret (v := .tuple #[.agg #[.int .i64 (lowN n d), .int .i64 (lowD n d)], .bool true]) ?_ rfl ⟨rfl, ?_⟩
    · simp [results, Try.results17, go_sem, c2, c3, lowN, lowD]
    · exact (((below_box2_call hb1).setCell (by simp) _).setCell (by simp) _).drew
set_option maxHeartbeats 1000000 in
theorem rlowest_no (n d : Int) (w : World) (h : d < 1) :
    Calls Try.prog 18 #[.agg #[.int .i64 n, .int .i64 d]] w fun r w' => r = .returned (.tuple #[.agg #[.int .i64 0, .int .i64 0], .bool false]) ∧ Below w.heap.size w w' := by
  go_enter Try.func18, Try.ntmps18
  go_wp2_with fail
  exact bodyPost_ret (v := .tuple #[.agg #[.int .i64 0, .int .i64 0], .bool false]) (by simp [results, Try.results18, go_sem]) rfl ⟨rfl, below_box2 _ _ _⟩

set_option maxHeartbeats 1000000 in
theorem rlowest_yes (n d : Int) (w : World) (hn : fits n) (hd : fits d) (h : 1 ≤ d) :
    Calls Try.prog 18 #[.agg #[.int .i64 n, .int .i64 d]] w fun r w' => r = .returned (.tuple #[.agg #[.int .i64 (lowN n d), .int .i64 (lowD n d)], .bool true]) ∧ Below w.heap.size w w' := by
  have h1 : ¬ d < 1 := by omega
  have hgp := gcdI_pos (n := n) h hd.2
  obtain ⟨-, hg1, hg2⟩ := hgp
  have hn' := hn
  have hd' := hd
  obtain ⟨n0, n1⟩ := hn'
  obtain ⟨d0, d1⟩ := hd'
  go_enter Try.func18, Try.ntmps18
  go_wp2_with fail
  refine (rgcd_any _ _ _ hn hd).mono ?_
  rintro e w1 ⟨rfl, hb1⟩
  obtain ⟨hc, hf⟩ := bcell hb1
  have c0 : w1.cell? ⟨w.heap.size, 0, none⟩ = some (.int .i64 n) := by rw [hc _ _ (by simp; omega)]; simp
  have c1 : w1.cell? ⟨w.heap.size, 1, none⟩ = some (.int .i64 d) := by rw [hc _ _ (by simp; omega)]; simp
  have c2 : w1.cell? ⟨w.heap.size + 1, 0, none⟩ = some (.int .i64 0) := by rw [hc _ _ (by simp)]; simp
  have c3 : w1.cell? ⟨w.heap.size + 1, 1, none⟩ = some (.int .i64 0) := by rw [hc _ _ (by simp)]; simp
  have f2 : w1.frozen? ⟨w.heap.size + 1, 0, none⟩ = false := by rw [hf _ _ (by simp)]; simp
  have f3 : w1.frozen? ⟨w.heap.size + 1, 1, none⟩ = false := by rw [hf _ _ (by simp)]; simp
  clear hc hf
  go_wp2_with fail
  go_region
  all_goals
    go_wp2_with fail
    refine bodyPost_ret (v := .tuple #[.agg #[.int .i64 (lowN n d), .int .i64 (lowD n d)], .bool true]) ?_ rfl ⟨rfl, ?_⟩
    · simp [results, Try.results18, go_sem, c2, c3, lowN, lowD]
    · exact (((below_box2_call hb1).setCell (by simp) _).setCell (by simp) _).drew

/-! ### the remainder from 0 on -/
theorem mod_mod (n m : Int) (hm : 1 ≤ m) : (n.tmod m + m) % m = n % m := by
  rw [Int.add_emod_right, Int.tmod_eq_emod]
  split
  · rw [Int.natCast_zero, Int.sub_zero, Int.emod_emod_of_dvd _ (Int.dvd_refl m)]
  · rw [Int.natAbs_of_nonneg (by omega), Int.sub_emod_right, Int.emod_emod_of_dvd _ (Int.dvd_refl m)]

set_option maxHeartbeats 400000 in
theorem mod_any (n m : Int) (w : World) (hn : fits n) (h1 : 1 ≤ m) (h2 : m ≤ 4611686018427387904) :
    Calls Try.prog 14 #[.int .i64 n, .int .i64 m] w fun r w' => r = .returned (.int .i64 (n % m)) ∧ w = w' := by
  obtain ⟨n0, n1⟩ := hn
  have b0 := Int.lt_tmod_of_pos n (b := m) (by omega)
  have b1 := Int.tmod_lt_of_pos n (b := m) (by omega)
  have b2 : 0 ≤ n.tmod m + m := by omega
  have b3 : n.tmod m + m ≤ 9223372036854775807 := by omega
  have h0 : (m == 0) = false := by simp; omega
  have HM := Lib.hid (mod_mod n m h1)
  go_enter Try.func14, Try.ntmps14
  go_wp2_with fail
  go_ret
  exact ⟨ret_int HM.out, rfl⟩
end Go.Proofs.Ytddkbmaoeppckaa

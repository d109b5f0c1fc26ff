/-
  The float root of an int that is greater than 0, made whole again, is an int from 0 on: enough for the loops behind it.
-/
import Derived.Laws.FloatArith
namespace Go.Proofs.Ytfcmmclialeepaa
open Ieee

theorem cut_zero_le (neg : Bool) (n drop : Nat) : Toward.zero.cut neg n drop ≤ n := by
  unfold Toward.cut
  simp
  exact Nat.div_le_self _ _

/-- even rounding: at most one more than the quotient -/
theorem cut_even_le (neg : Bool) (n drop : Nat) : Toward.even.cut neg n drop ≤ n / 2 ^ (min drop (n.log2 + 2)) + 1 := by
  unfold Toward.cut
  simp only [Nat.one_shiftLeft]
  have : ∀ b : Bool, b.toNat ≤ 1 := by decide
  exact Nat.add_le_add_left (this _) _

theorem kept_le (mag : Nat) (s : Int) (h : s + mag.log2 ≤ 52) : Toward.even.cut false (mag <<< s.toNat) (-s).toNat ≤ 2 ^ 53 := by
  refine Nat.le_trans (cut_even_le _ _ _) ?_
  have hl : mag < 2 ^ (mag.log2 + 1) := Nat.lt_log2_self
  rw [Nat.shiftLeft_eq]
  by_cases hs : 0 ≤ s
  · rw [show (-s).toNat = 0 from by omega, Nat.zero_min, Nat.pow_zero, Nat.div_one]
    have h1 : mag * 2 ^ s.toNat < 2 ^ (mag.log2 + 1) * 2 ^ s.toNat := Nat.mul_lt_mul_of_pos_right hl (Nat.two_pow_pos _)
    rw [← Nat.pow_add] at h1
    have h2 : 2 ^ (mag.log2 + 1 + s.toNat) ≤ 2 ^ 53 := Nat.pow_le_pow_right (by decide) (by omega)
    omega
  · rw [show s.toNat = 0 from by omega, Nat.pow_zero, Nat.mul_one]
    have h3 : mag / 2 ^ min (-s).toNat (mag.log2 + 2) < 2 ^ 53 := by
      refine Nat.div_lt_of_lt_mul ?_
      rw [← Nat.pow_add]
      exact Nat.lt_of_lt_of_le hl (Nat.pow_le_pow_right (by decide) (by omega))
    omega

theorem least_double : double.leastPlace = -1074 := by decide
theorem inf_double : double.infRung = 2047 * 2 ^ 52 := by decide +kernel
theorem sign_double : double.signWeight = 2 ^ 63 := by decide +kernel
theorem binade_double : double.binade = 2 ^ 52 := by decide +kernel

/-- the rung of a rounded number: at most that of the place of its first digit -/
theorem nearest_le (mag : Nat) (place : Int) (E : Int) (h1 : place + mag.log2 ≤ E) (h2 : -1022 ≤ E) :
    double.nearest false mag place ≤ ((E + 1022).toNat + 2) * 2 ^ 52 := by
  unfold Format.nearest
  split
  · unfold Format.word; simp
  · rw [least_double, binade_double]
    unfold Format.word
    simp only [Bool.false_eq_true, if_false, show double.fractionBits = 52 from rfl]
    generalize double.infRung = R
    generalize hL : max (place + (mag.log2 : Int) - ((52 : Nat) : Int)) (-1074) = last
    have hk := kept_le mag (place - last) (by omega)
    rw [show (last - place).toNat = (-(place - last)).toNat from by congr 1; omega]
    have h3 : (last - -1074).toNat ≤ (E + 1022).toNat := by omega
    have h4 := Nat.mul_le_mul_right (2 ^ 52) h3
    generalize Toward.even.cut false (mag <<< (place - last).toNat) (-(place - last)).toNat = kept at *
    have h5 : (last - -1074).toNat * 2 ^ 52 + kept ≤ ((E + 1022).toNat + 2) * 2 ^ 52 := by
      have h6 : (2 : Nat) ^ 53 = 2 * 2 ^ 52 := by decide +kernel
      rw [h6] at hk
      rw [Nat.add_mul]
      exact Nat.add_le_add h4 hk
    exact Nat.le_trans (Nat.min_le_left _ _) h5

/-- what a low rung reads as -/
theorem read_low (r e : Nat) (he : 1 ≤ e) (he2 : e ≤ 2000) (h : r ≤ e * 2 ^ 52) :
    ∃ m i, double.read r = .number false m i ∧ m < 2 ^ 53 ∧ i ≤ (e : Int) - 1075 := by
  have hr : r < 2 ^ 63 := by have := Nat.mul_le_mul_right (2 ^ 52) he2; omega
  unfold Format.read
  rw [sign_double, binade_double, inf_double, least_double]
  rw [Nat.div_eq_of_lt hr, Nat.mod_eq_of_lt hr]
  simp only
  split
  · exact ⟨r, _, rfl, by omega, by omega⟩
  · rw [if_pos (by have := Nat.mul_le_mul_right (2 ^ 52) he2; omega)]
    refine ⟨_, _, rfl, ?_, ?_⟩
    · have := Nat.mod_lt r (Nat.two_pow_pos 52); omega
    · have : r / 2 ^ 52 ≤ e := Nat.div_le_of_le_mul (by omega)
      omega

theorem rootFrom_sq (n : Nat) : ∀ (todo root : Nat), root * root ≤ n → Datum.rootFrom n todo root * Datum.rootFrom n todo root ≤ n
  | 0, root, h => h
  | todo + 1, root, h => by
    unfold Datum.rootFrom
    simp only
    split
    · rename_i h1; exact rootFrom_sq n todo _ h1
    · exact rootFrom_sq n todo _ h

theorem root_datum (m : Nat) (i : Int) (hm : m < 2 ^ 53) (hi : i ≤ 11) :
    ∃ m' i', Datum.root 54 (.number false m i) = some (.number false m' i') ∧ (m' = 0 ∨ i' + (m'.log2 : Int) ≤ 31) := by
  unfold Datum.root
  simp only
  split
  · rename_i h0; exact ⟨m, i, rfl, .inl h0⟩
  · simp only [Bool.false_eq_true, if_false]
    refine ⟨_, _, rfl, ?_⟩
    generalize 2 * 54 - m.log2 + ((i - ((2 * 54 - m.log2 : Nat) : Int)) % 2).toNat = more
    have hsq := rootFrom_sq (m <<< more) ((m <<< more).log2 / 2 + 1) 0 (by simp)
    generalize Datum.rootFrom (m <<< more) ((m <<< more).log2 / 2 + 1) 0 = whole at *
    have hb : (whole * whole != m <<< more).toNat ≤ 1 := by cases (whole * whole != m <<< more) <;> decide
    generalize (whole * whole != m <<< more).toNat = b at *
    by_cases hz : 2 * whole + b = 0
    · exact .inl hz
    · right
      have ht := Nat.log2_self_le hz
      generalize (2 * whole + b).log2 = t at *
      rw [Nat.shiftLeft_eq] at hsq
      have h1 : m * 2 ^ more < 2 ^ (53 + more) := by rw [Nat.pow_add]; exact Nat.mul_lt_mul_of_pos_right hm (Nat.two_pow_pos _)
      have h2 : t = 0 ∨ 2 * t ≤ 54 + more := by
        cases t with
        | zero => exact .inl rfl
        | succ u =>
          right
          rw [Nat.pow_succ] at ht
          have h3 : 2 ^ u ≤ whole := by omega
          have h4 : 2 ^ u * 2 ^ u ≤ whole * whole := Nat.mul_le_mul h3 h3
          rw [← Nat.pow_add] at h4
          have h5 : 2 ^ (u + u) < 2 ^ (53 + more) := by omega
          have h6 := (Nat.pow_lt_pow_iff_right (a := 2) (by decide)).1 h5
          omega
      omega

/-- int(math.Sqrt(float64(n))) for an int greater than 0: the conversions give their values, and the last one an int from 0 on -/
theorem float_root (n : Int) (h0 : 0 < n) (h1 : n ≤ 9223372036854775807) :
    ∃ r k, FloatKind.f64.format.sqrt (FloatKind.f64.nearest n) = some r ∧ floatToIntVal .f64 r .i64 = some k ∧ 0 ≤ k ∧ k ≤ 9223372036854775807 := by
  have e1 : FloatKind.f64.nearest n = double.nearest false n.natAbs 0 := by
    unfold FloatKind.nearest FloatKind.encode
    show double.write _ = _
    unfold Format.write
    simp only
    rw [decide_eq_false (by omega)]
  have hl : n.natAbs.log2 ≤ 62 := by
    have h3 := Nat.log2_self_le (n := n.natAbs) (by omega)
    have h4 : 2 ^ n.natAbs.log2 < 2 ^ 63 := by omega
    have := (Nat.pow_lt_pow_iff_right (a := 2) (by decide)).1 h4
    omega
  have h2 := nearest_le n.natAbs 0 62 (by omega) (by decide)
  obtain ⟨m, i, hr, hm, hi⟩ := read_low _ 1086 (by decide) (by decide) h2
  obtain ⟨m', i', hq, hq'⟩ := root_datum m i hm (by omega)
  refine ⟨double.nearest false m' i', ?_⟩
  have h3 : double.nearest false m' i' ≤ ((31 + 1022 : Int).toNat + 2) * 2 ^ 52 := by
    rcases hq' with h | h
    · subst h; unfold Format.nearest Format.word; simp
    · exact nearest_le m' i' 31 h (by decide)
  obtain ⟨m2, i2, hr2, hm2, hi2⟩ := read_low _ 1055 (by decide) (by decide) h3
  have hcut : Toward.zero.cut false (m2 <<< i2.toNat) (-i2).toNat ≤ m2 <<< i2.toNat := cut_zero_le _ _ _
  rw [show i2.toNat = 0 from by omega, Nat.shiftLeft_zero] at hcut
  refine ⟨(Toward.zero.cut false (m2 <<< i2.toNat) (-i2).toNat : Nat), ?_, ?_, by omega, ?_⟩
  · rw [e1]
    show (((double.read _).root (double.fractionBits + 2)).map double.write) = _
    rw [hr]
    show (Datum.root 54 _).map double.write = _
    rw [hq]; rfl
  · unfold floatToIntVal FloatKind.decode
    show (match (double.read (double.nearest false m' i')).toInt .zero with | some n => if IntKind.i64.min ≤ n ∧ n ≤ IntKind.i64.max then some n else none | none => none) = _
    rw [hr2]
    show (match some (signed false (Toward.zero.cut false (m2 <<< i2.toNat) (-i2).toNat) 0) with | some n => if IntKind.i64.min ≤ n ∧ n ≤ IntKind.i64.max then some n else none | none => none) = _
    unfold signed
    simp only [Bool.false_eq_true, if_false, Nat.shiftLeft_zero]
    rw [show i2.toNat = 0 from by omega, Nat.shiftLeft_zero]
    generalize Toward.zero.cut false m2 (-i2).toNat = c at *
    rw [if_pos]
    rw [show IntKind.i64.min = -9223372036854775808 from rfl, show IntKind.i64.max = 9223372036854775807 from rfl]
    omega
  · rw [show i2.toNat = 0 from by omega, Nat.shiftLeft_zero]; omega

end Go.Proofs.Ytfcmmclialeepaa

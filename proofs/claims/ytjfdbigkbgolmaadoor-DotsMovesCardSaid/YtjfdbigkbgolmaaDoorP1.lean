/-
  Plain facts on integers for chapter 01 (exact): signs, roots, greatest common divisors, and the bound on the float root. No program in sight.
-/
import Ieee.Arith
import GoSem.Core.Float
namespace Go.Proofs.YtjfdbigkbgolmaaDoor
set_option linter.unusedVariables false
set_option linter.unusedSimpArgs false

/-- compare of two integers: -1, 0, 1 -/
def cmpI (a b : Int) : Int := (a - b).sign

theorem cmpI_lt {a b : Int} (h : a < b) : cmpI a b = -1 := by unfold cmpI; rw [Int.sign_eq_neg_one_of_neg (by omega)]
theorem cmpI_eq (a : Int) : cmpI a a = 0 := by unfold cmpI; rw [Int.sub_self]; rfl
theorem cmpI_gt {a b : Int} (h : b < a) : cmpI a b = 1 := by unfold cmpI; rw [Int.sign_eq_one_of_pos (by omega)]

/-- the comparison of two products, as two words each -/
def cmp2 (h l h' l' : Int) : Int := if cmpI h h' = 0 then cmpI l l' else cmpI h h'

theorem cmp2_words (p q : Nat) : cmp2 (p / 18446744073709551616 : Nat) (p % 18446744073709551616 : Nat) (q / 18446744073709551616 : Nat) (q % 18446744073709551616 : Nat) = cmpI p q := by
  unfold cmp2
  rcases Nat.lt_trichotomy (p / 18446744073709551616) (q / 18446744073709551616) with h | h | h
  · rw [cmpI_lt (by omega), if_neg (by decide), cmpI_lt (by omega)]
  · rw [h, cmpI_eq, if_pos rfl]
    rcases Nat.lt_trichotomy (p % 18446744073709551616) (q % 18446744073709551616) with h2 | h2 | h2
    · rw [cmpI_lt (by omega), cmpI_lt (by omega)]
    · have : p = q := by omega
      rw [this, cmpI_eq, cmpI_eq]
    · rw [cmpI_gt (by omega), cmpI_gt (by omega)]
  · rw [cmpI_gt (by omega), if_neg (by decide), cmpI_gt (by omega)]

/-- the sign of a b - c d -/
def sign2 (a b c d : Int) : Int := (a * b - c * d).sign

theorem sign_of (n : Int) : (n < 0 ∧ n.sign = -1) ∨ (n = 0 ∧ n.sign = 0) ∨ (0 < n ∧ n.sign = 1) := by
  rcases Int.lt_trichotomy n 0 with h | h | h
  · exact .inl ⟨h, Int.sign_eq_neg_one_of_neg h⟩
  · exact .inr (.inl ⟨h, by rw [h]; rfl⟩)
  · exact .inr (.inr ⟨h, Int.sign_eq_one_of_pos h⟩)

theorem sign_cases (n : Int) : n.sign = -1 ∨ n.sign = 0 ∨ n.sign = 1 := by
  rcases sign_of n with h | h | h <;> simp [h.2]

theorem sign2_ne {a b c d : Int} (h : a.sign * b.sign ≠ c.sign * d.sign) : (a.sign * b.sign - c.sign * d.sign).sign = sign2 a b c d := by
  unfold sign2
  rw [← Int.sign_mul, ← Int.sign_mul] at *
  generalize a * b = x at *
  generalize c * d = y at *
  rcases sign_of x with ⟨h1, e1⟩ | ⟨h1, e1⟩ | ⟨h1, e1⟩ <;> rcases sign_of y with ⟨h2, e2⟩ | ⟨h2, e2⟩ | ⟨h2, e2⟩ <;> rw [e1, e2] at h ⊢ <;>
    first
    | exact absurd rfl h
    | (rw [Int.sign_eq_neg_one_of_neg (a := x - y) (by omega)]; rfl)
    | (rw [Int.sign_eq_one_of_pos (a := x - y) (by omega)]; rfl)

theorem sign2_eq {a b c d : Int} (h : a.sign * b.sign = c.sign * d.sign) : a.sign * b.sign * cmpI ((a.natAbs * b.natAbs : Nat) : Int) ((c.natAbs * d.natAbs : Nat) : Int) = sign2 a b c d := by
  unfold sign2 cmpI
  rw [← Int.natAbs_mul, ← Int.natAbs_mul]
  rw [← Int.sign_mul, ← Int.sign_mul] at h
  rw [← Int.sign_mul]
  generalize a * b = x at *
  generalize c * d = y at *
  rcases sign_of x with ⟨h1, e1⟩ | ⟨h1, e1⟩ | ⟨h1, e1⟩ <;> rcases sign_of y with ⟨h2, e2⟩ | ⟨h2, e2⟩ | ⟨h2, e2⟩ <;> rw [e1, e2] at h <;> try omega
  · rw [e1, show ((x.natAbs : Int)) = -x from by omega, show ((y.natAbs : Int)) = -y from by omega, show -x - -y = -(x - y) from by omega, Int.sign_neg]
    omega
  · rw [e1, h1, h2]; rfl
  · rw [e1, show ((x.natAbs : Int)) = x from by omega, show ((y.natAbs : Int)) = y from by omega, Int.one_mul]

/-! ### roots -/
/-- the reference's root: bit by bit -/
def rootBits (n : Int) : Nat → Int → Int
  | 0, out => out
  | k + 1, out => rootBits n k (if out + 2 ^ k ≤ 3037000499 ∧ (out + 2 ^ k) * (out + 2 ^ k) ≤ n then out + 2 ^ k else out)

def root (n : Int) : Int := rootBits n 32 0

def isRoot (n s : Int) : Prop := 0 ≤ s ∧ s ≤ 3037000499 ∧ s * s ≤ n ∧ (s = 3037000499 ∨ n < (s + 1) * (s + 1))

theorem sq_le {a b : Int} (h0 : 0 ≤ a) (h : a ≤ b) : a * a ≤ b * b := Int.mul_le_mul h h h0 (by omega)

theorem isRoot_unique {n s t : Int} (hs : isRoot n s) (ht : isRoot n t) : s = t := by
  obtain ⟨s0, s1, s2, s3⟩ := hs
  obtain ⟨t0, t1, t2, t3⟩ := ht
  rcases Int.lt_trichotomy s t with h | h | h
  · have := sq_le (a := s + 1) (b := t) (by omega) (by omega)
    omega
  · exact h
  · have := sq_le (a := t + 1) (b := s) (by omega) (by omega)
    omega

theorem rootBits_inv (n : Int) : ∀ (k : Nat) (out : Int), 0 ≤ out → out ≤ 3037000499 → out * out ≤ n → (3037000499 < out + 2 ^ k ∨ n < (out + 2 ^ k) * (out + 2 ^ k)) → isRoot n (rootBits n k out)
  | 0, out, h0, h1, h2, h3 => ⟨h0, h1, h2, by simp at h3; simp only [rootBits]; omega⟩
  | k + 1, out, h0, h1, h2, h3 => by
    unfold rootBits
    have hp : (0 : Int) < 2 ^ k := Int.pow_pos (by decide)
    have e : (2 : Int) ^ (k + 1) = 2 ^ k + 2 ^ k := by rw [Int.pow_succ]; omega
    rw [e] at h3
    split
    · rename_i h
      exact rootBits_inv n k _ (by omega) h.1 h.2 (by rw [show out + 2 ^ k + 2 ^ k = out + (2 ^ k + 2 ^ k) from by omega]; exact h3)
    · rename_i h
      refine rootBits_inv n k _ h0 h1 h2 ?_
      by_cases h4 : out + 2 ^ k ≤ 3037000499
      · right
        have : ¬ (out + 2 ^ k) * (out + 2 ^ k) ≤ n := fun hh => h ⟨h4, hh⟩
        omega
      · left; omega

theorem root_is {n : Int} (h : 0 ≤ n) : isRoot n (root n) := rootBits_inv n 32 0 (by decide) (by decide) (by omega) (.inl (by decide))

theorem rootBits_neg {n : Int} (h : n < 0) : ∀ (k : Nat), rootBits n k 0 = 0
  | 0 => rfl
  | k + 1 => by
    unfold rootBits
    rw [if_neg]
    · exact rootBits_neg h k
    · intro hh
      have hp : (0 : Int) < 2 ^ k := Int.pow_pos (by decide)
      have := sq_le (a := 0) (b := 0 + 2 ^ k) (by omega) (by omega)
      omega
theorem root_neg {n : Int} (h : n < 0) : root n = 0 := rootBits_neg h 32
theorem root_of {n s : Int} (h0 : 0 ≤ n) (h : isRoot n s) : s = root n := isRoot_unique h (root_is h0)

/-! ### greatest common divisors -/
/-- P1.4: the greatest common divisor; 1 where it is no int -/
def gcdI (a b : Int) : Int := if Nat.gcd a.natAbs b.natAbs ≤ 9223372036854775807 then (Nat.gcd a.natAbs b.natAbs : Nat) else 1

theorem rem30 (n : Int) : -1073741824 < n.tmod 1073741824 ∧ n.tmod 1073741824 < 1073741824 :=
  ⟨Int.lt_tmod_of_pos n (by decide), Int.tmod_lt_of_pos n (by decide)⟩
theorem mul_small {a b : Int} (a0 : -1073741824 < a) (a1 : a < 1073741824) (b0 : -1073741824 < b) (b1 : b < 1073741824) : -1152921504606846976 ≤ a * b ∧ a * b ≤ 1152921504606846976 := by
  have h : (a * b).natAbs ≤ 1073741824 * 1073741824 := by rw [Int.natAbs_mul]; exact Nat.mul_le_mul (by omega) (by omega)
  omega

end Go.Proofs.YtjfdbigkbgolmaaDoor

/-
  Plain facts on the words of products (two words of 64 bits), in the spelling in which the walks leave them.
-/
import Derived.Lib.Mul64
import Derived.Laws.Bits64b
import Derived.IntWalk
namespace Go.Proofs.Ytfcmmclialeepaa
open Go

theorem u64_nat (x : Nat) (h : x < 18446744073709551616) : IntKind.u64.wrap (x : Int) = (x : Int) := IntWalk.u64_in _ (by omega)

theorem and_mask (a : Nat) (ha : a < 18446744073709551616) : bits .and .u64 (a : Int) 4294967295 = ((a % 4294967296 : Nat) : Int) := by
  have h := bits_and_u64_nat a 4294967295 ha (by decide)
  have e : a &&& 4294967295 = a % 4294967296 := Nat.and_two_pow_sub_one_eq_mod a 32
  rw [e] at h
  exact h

/-- the middle sum, as both texts write it -/
theorem mid_walk (a b : Nat) (ha : a < 18446744073709551616) (hb : b < 18446744073709551616) :
    IntKind.u64.wrap (IntKind.u64.wrap ((a : Int) / 4294967296 * bits .and .u64 (b : Int) 4294967295) + IntKind.u64.wrap (bits .and .u64 (a : Int) 4294967295 * bits .and .u64 (b : Int) 4294967295) / 4294967296) =
      (((a / 4294967296) * (b % 4294967296) + (a % 4294967296) * (b % 4294967296) / 4294967296 : Nat) : Int) := by
  obtain ⟨h1, h2, -, -⟩ := Lib.mul64_hi a b ha hb
  have h3 := Lib.half_mul_le (a := a / 4294967296) (b := b % 4294967296) (by omega) (by omega)
  rw [and_mask a ha, and_mask b hb, show ((a : Int) / 4294967296) = ((a / 4294967296 : Nat) : Int) from rfl, ← Int.natCast_mul, ← Int.natCast_mul, u64_nat _ (by omega), u64_nat _ h1]
  rw [show ((((a % 4294967296) * (b % 4294967296) : Nat) : Int) / 4294967296) = (((a % 4294967296) * (b % 4294967296) / 4294967296 : Nat) : Int) from rfl, ← Int.natCast_add, u64_nat _ h2]

theorem hi_walk (a b : Nat) (ha : a < 18446744073709551616) (hb : b < 18446744073709551616) (T : Int)
    (hT : T = (((a / 4294967296) * (b % 4294967296) + (a % 4294967296) * (b % 4294967296) / 4294967296 : Nat) : Int)) :
    IntKind.u64.wrap (IntKind.u64.wrap (IntKind.u64.wrap ((a : Int) / 4294967296 * ((b : Int) / 4294967296)) + T / 4294967296) +
      IntKind.u64.wrap (bits .and .u64 T 4294967295 + IntKind.u64.wrap (bits .and .u64 (a : Int) 4294967295 * ((b : Int) / 4294967296))) / 4294967296) = ((a * b / 18446744073709551616 : Nat) : Int) := by
  subst hT
  obtain ⟨h1, h2, h3, h4⟩ := Lib.mul64_hi a b ha hb
  have h5 := Lib.half_mul_le (a := a / 4294967296) (b := b / 4294967296) (by omega) (by omega)
  have h6 := Lib.half_mul_le (a := a % 4294967296) (b := b / 4294967296) (by omega) (by omega)
  have hq : a * b / 18446744073709551616 < 18446744073709551616 := by
    have : a * b < 18446744073709551616 * 18446744073709551616 := Nat.mul_lt_mul'' ha hb
    exact Nat.div_lt_of_lt_mul this
  rw [and_mask _ h2, and_mask a ha, show ((a : Int) / 4294967296) = ((a / 4294967296 : Nat) : Int) from rfl, show ((b : Int) / 4294967296) = ((b / 4294967296 : Nat) : Int) from rfl,
    ← Int.natCast_mul, ← Int.natCast_mul, u64_nat _ (by omega), u64_nat _ (by omega), ← Int.natCast_add, u64_nat _ (by omega)]
  generalize (a / 4294967296) * (b % 4294967296) + (a % 4294967296) * (b % 4294967296) / 4294967296 = t at *
  rw [show (((t : Nat) : Int) / 4294967296) = ((t / 4294967296 : Nat) : Int) from rfl, ← Int.natCast_add, u64_nat _ (by omega)]
  rw [show ((((t % 4294967296 + a % 4294967296 * (b / 4294967296) : Nat)) : Int) / 4294967296) = (((t % 4294967296 + a % 4294967296 * (b / 4294967296)) / 4294967296 : Nat) : Int) from rfl, ← Int.natCast_add, h4, u64_nat _ hq]

theorem lo_walk (a b : Nat) : IntKind.u64.wrap ((a : Int) * (b : Int)) = ((a * b % 18446744073709551616 : Nat) : Int) := by
  rw [IntKind.wrap_u64, ← Int.natCast_mul]; rfl

/-- the high and the low word of a product -/
def hiN (a b : Nat) : Int := ((a * b / 18446744073709551616 : Nat) : Int)
def loN (a b : Nat) : Int := ((a * b % 18446744073709551616 : Nat) : Int)

end Go.Proofs.Ytfcmmclialeepaa

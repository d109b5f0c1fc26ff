/-
  Plain facts on integers for chapter 01 (exact): signs, roots, greatest common divisors, and the bound on the float root. No program in sight.
  Plain facts on the words of products (two words of 64 bits), in the spelling in which the walks leave them.
  Worlds that have only grown: 'w.growBy p' is w with further blocks behind its own, and any count of draws. A contract that says 'Below w.heap.size w w'' gives such a world (grow_of_below), and a drawn region whose operations read, and whose callees only make memory, is walked once, in the order of the text, over this class of worlds (wp_region_grow).
  A drawn region whose first n operations read, or call what only makes memory, and whose last ones come in one forced order (a store, an alloc, an append, a call): the first ones are walked once, in the order of the text, over the worlds that have only grown; the last ones as a plain list behind them.
  The frame of a law's proof, once for all: a walk that returns true and only makes memory (Below) pays the post of 'for every input: true; each argument reads as it did'.
-/

import Ieee.Arith
import GoSem.Core.Float
import Derived.Lib.Mul64
import Derived.Laws.Bits64b
import Derived.IntWalk
import Derived.WalkKit
import Derived.WalkSpells
import Derived.WalkLawsBesides
import Derived.Deep.Quiet
import Derived.Deep.QuietTactic
import Derived.BigQuiet
import Derived.Lib.Hide
import Derived.StillTail
import Derived.ProofKit
import Derived.OpenShut
namespace Go.Proofs.YtjfdbigkbgolmaaGreatDoor
set_option linter.unusedVariables false
set_option linter.unusedSimpArgs false

/-- compare of two integers: -1, 0, 1 -/
def cmpI (a b : Int) : Int := (a - b).sign

theorem cmpI_lt {a b : Int} (h : a < b) : cmpI a b = -1 := by unfold cmpI; rw [Int.sign_eq_neg_one_of_neg (by omega)]
theorem cmpI_eq (a : Int) : cmpI a a = 0 := by unfold cmpI; rw [Int.sub_self]; rfl
theorem cmpI_gt {a b : Int} (h : b < a) : cmpI a b = 1 := by unfold cmpI; rw [Int.sign_eq_one_of_pos (by omega)]

/-- the comparison of two products, as two words each -/
def cmp2 (h l h' l' : Int) : Int := if cmpI h h' = 0 then cmpI l l' else cmpI h h'

theorem cmp2_words (p q : Nat) : cmp2 (p / 18446744073709551616 : Nat) (p % 18446744073709551616 : Nat) (q / 18446744073709551616 : Nat) (q % 18446744073709551616 : Nat) = cmpI p q := by
  unfold cmp2
  rcases Nat.lt_trichotomy (p / 18446744073709551616) (q / 18446744073709551616) with h | h | h
  · rw [cmpI_lt (by omega), if_neg (by decide), cmpI_lt (by omega)]
  · rw [h, cmpI_eq, if_pos rfl]
    rcases Nat.lt_trichotomy (p % 18446744073709551616) (q % 18446744073709551616) with h2 | h2 | h2
    · rw [cmpI_lt (by omega), cmpI_lt (by omega)]
    · have : p = q := by omega
      rw [this, cmpI_eq, cmpI_eq]
    · rw [cmpI_gt (by omega), cmpI_gt (by omega)]
  · rw [cmpI_gt (by omega), if_neg (by decide), cmpI_gt (by omega)]

/-- the sign of a b - c d -/
def sign2 (a b c d : Int) : Int := (a * b - c * d).sign

theorem sign_of (n : Int) : (n < 0 ∧ n.sign = -1) ∨ (n = 0 ∧ n.sign = 0) ∨ (0 < n ∧ n.sign = 1) := by
  rcases Int.lt_trichotomy n 0 with h | h | h
  · exact .inl ⟨h, Int.sign_eq_neg_one_of_neg h⟩
  · exact .inr (.inl ⟨h, by rw [h]; rfl⟩)
  · exact .inr (.inr ⟨h, Int.sign_eq_one_of_pos h⟩)

theorem sign_cases (n : Int) : n.sign = -1 ∨ n.sign = 0 ∨ n.sign = 1 := by
  rcases sign_of n with h | h | h <;> simp [h.2]

theorem sign2_ne {a b c d : Int} (h : a.sign * b.sign ≠ c.sign * d.sign) : (a.sign * b.sign - c.sign * d.sign).sign = sign2 a b c d := by
  unfold sign2
  rw [← Int.sign_mul, ← Int.sign_mul] at *
  generalize a * b = x at *
  generalize c * d = y at *
  rcases sign_of x with ⟨h1, e1⟩ | ⟨h1, e1⟩ | ⟨h1, e1⟩ <;> rcases sign_of y with ⟨h2, e2⟩ | ⟨h2, e2⟩ | ⟨h2, e2⟩ <;> rw [e1, e2] at h ⊢ <;>
    first
    | exact absurd rfl h
    | (rw [Int.sign_eq_neg_one_of_neg (a := x - y) (by omega)]; rfl)
    | (rw [Int.sign_eq_one_of_pos (a := x - y) (by omega)]; rfl)

theorem sign2_eq {a b c d : Int} (h : a.sign * b.sign = c.sign * d.sign) : a.sign * b.sign * cmpI ((a.natAbs * b.natAbs : Nat) : Int) ((c.natAbs * d.natAbs : Nat) : Int) = sign2 a b c d := by
  unfold sign2 cmpI
  rw [← Int.natAbs_mul, ← Int.natAbs_mul]
  rw [← Int.sign_mul, ← Int.sign_mul] at h
  rw [← Int.sign_mul]
  generalize a * b = x at *
  generalize c * d = y at *
  rcases sign_of x with ⟨h1, e1⟩ | ⟨h1, e1⟩ | ⟨h1, e1⟩ <;> rcases sign_of y with ⟨h2, e2⟩ | ⟨h2, e2⟩ | ⟨h2, e2⟩ <;> rw [e1, e2] at h <;> try omega
  · rw [e1, show ((x.natAbs : Int)) = -x from by omega, show ((y.natAbs : Int)) = -y from by omega, show -x - -y = -(x - y) from by omega, Int.sign_neg]
    omega
  · rw [e1, h1, h2]; rfl
  · rw [e1, show ((x.natAbs : Int)) = x from by omega, show ((y.natAbs : Int)) = y from by omega, Int.one_mul]

/-! ### roots -/
/-- the reference's root: bit by bit -/
def rootBits (n : Int) : Nat → Int → Int
  | 0, out => out
  | k + 1, out => rootBits n k (if out + 2 ^ k ≤ 3037000499 ∧ (out + 2 ^ k) * (out + 2 ^ k) ≤ n then out + 2 ^ k else out)

def root (n : Int) : Int := rootBits n 32 0

def isRoot (n s : Int) : Prop := 0 ≤ s ∧ s ≤ 3037000499 ∧ s * s ≤ n ∧ (s = 3037000499 ∨ n < (s + 1) * (s + 1))

theorem sq_le {a b : Int} (h0 : 0 ≤ a) (h : a ≤ b) : a * a ≤ b * b := Int.mul_le_mul h h h0 (by omega)

theorem isRoot_unique {n s t : Int} (hs : isRoot n s) (ht : isRoot n t) : s = t := by
  obtain ⟨s0, s1, s2, s3⟩ := hs
  obtain ⟨t0, t1, t2, t3⟩ := ht
  rcases Int.lt_trichotomy s t with h | h | h
  · have := sq_le (a := s + 1) (b := t) (by omega) (by omega)
    omega
  · exact h
  · have := sq_le (a := t + 1) (b := s) (by omega) (by omega)
    omega

theorem rootBits_inv (n : Int) : ∀ (k : Nat) (out : Int), 0 ≤ out → out ≤ 3037000499 → out * out ≤ n → (3037000499 < out + 2 ^ k ∨ n < (out + 2 ^ k) * (out + 2 ^ k)) → isRoot n (rootBits n k out)
  | 0, out, h0, h1, h2, h3 => ⟨h0, h1, h2, by simp at h3; simp only [rootBits]; omega⟩
  | k + 1, out, h0, h1, h2, h3 => by
    unfold rootBits
    have hp : (0 : Int) < 2 ^ k := Int.pow_pos (by decide)
    have e : (2 : Int) ^ (k + 1) = 2 ^ k + 2 ^ k := by rw [Int.pow_succ]; omega
    rw [e] at h3
    split
    · rename_i h
      exact rootBits_inv n k _ (by omega) h.1 h.2 (by rw [show out + 2 ^ k + 2 ^ k = out + (2 ^ k + 2 ^ k) from by omega]; exact h3)
    · rename_i h
      refine rootBits_inv n k _ h0 h1 h2 ?_
      by_cases h4 : out + 2 ^ k ≤ 3037000499
      · right
        have : ¬ (out + 2 ^ k) * (out + 2 ^ k) ≤ n := fun hh => h ⟨h4, hh⟩
        omega
      · left; omega

theorem root_is {n : Int} (h : 0 ≤ n) : isRoot n (root n) := rootBits_inv n 32 0 (by decide) (by decide) (by omega) (.inl (by decide))

theorem rootBits_neg {n : Int} (h : n < 0) : ∀ (k : Nat), rootBits n k 0 = 0
  | 0 => rfl
  | k + 1 => by
    unfold rootBits
    rw [if_neg]
    · exact rootBits_neg h k
    · intro hh
      have hp : (0 : Int) < 2 ^ k := Int.pow_pos (by decide)
      have := sq_le (a := 0) (b := 0 + 2 ^ k) (by omega) (by omega)
      omega
theorem root_neg {n : Int} (h : n < 0) : root n = 0 := rootBits_neg h 32
theorem root_of {n s : Int} (h0 : 0 ≤ n) (h : isRoot n s) : s = root n := isRoot_unique h (root_is h0)

/-! ### greatest common divisors -/
/-- P1.4: the greatest common divisor; 1 where it is no int -/
def gcdI (a b : Int) : Int := if Nat.gcd a.natAbs b.natAbs ≤ 9223372036854775807 then (Nat.gcd a.natAbs b.natAbs : Nat) else 1

theorem rem30 (n : Int) : -1073741824 < n.tmod 1073741824 ∧ n.tmod 1073741824 < 1073741824 :=
  ⟨Int.lt_tmod_of_pos n (by decide), Int.tmod_lt_of_pos n (by decide)⟩
theorem mul_small {a b : Int} (a0 : -1073741824 < a) (a1 : a < 1073741824) (b0 : -1073741824 < b) (b1 : b < 1073741824) : -1152921504606846976 ≤ a * b ∧ a * b ≤ 1152921504606846976 := by
  have h : (a * b).natAbs ≤ 1073741824 * 1073741824 := by rw [Int.natAbs_mul]; exact Nat.mul_le_mul (by omega) (by omega)
  omega

end Go.Proofs.YtjfdbigkbgolmaaGreatDoor
namespace Go.Proofs.YtjfdbigkbgolmaaGreatDoor
set_option linter.unusedVariables false
set_option linter.unusedSimpArgs false
open Go

theorem u64_nat (x : Nat) (h : x < 18446744073709551616) : IntKind.u64.wrap (x : Int) = (x : Int) := IntWalk.u64_in _ (by omega)

theorem and_mask (a : Nat) (ha : a < 18446744073709551616) : bits .and .u64 (a : Int) 4294967295 = ((a % 4294967296 : Nat) : Int) := by
  have h := bits_and_u64_nat a 4294967295 ha (by decide)
  have e : a &&& 4294967295 = a % 4294967296 := Nat.and_two_pow_sub_one_eq_mod a 32
  rw [e] at h
  exact h

/-- the middle sum, as both texts write it -/
theorem mid_walk (a b : Nat) (ha : a < 18446744073709551616) (hb : b < 18446744073709551616) :
    IntKind.u64.wrap (IntKind.u64.wrap ((a : Int) / 4294967296 * bits .and .u64 (b : Int) 4294967295) + IntKind.u64.wrap (bits .and .u64 (a : Int) 4294967295 * bits .and .u64 (b : Int) 4294967295) / 4294967296) =
      (((a / 4294967296) * (b % 4294967296) + (a % 4294967296) * (b % 4294967296) / 4294967296 : Nat) : Int) := by
  obtain ⟨h1, h2, -, -⟩ := Lib.mul64_hi a b ha hb
  have h3 := Lib.half_mul_le (a := a / 4294967296) (b := b % 4294967296) (by omega) (by omega)
  rw [and_mask a ha, and_mask b hb, show ((a : Int) / 4294967296) = ((a / 4294967296 : Nat) : Int) from rfl, ← Int.natCast_mul, ← Int.natCast_mul, u64_nat _ (by omega), u64_nat _ h1]
  rw [show ((((a % 4294967296) * (b % 4294967296) : Nat) : Int) / 4294967296) = (((a % 4294967296) * (b % 4294967296) / 4294967296 : Nat) : Int) from rfl, ← Int.natCast_add, u64_nat _ h2]

theorem hi_walk (a b : Nat) (ha : a < 18446744073709551616) (hb : b < 18446744073709551616) (T : Int)
    (hT : T = (((a / 4294967296) * (b % 4294967296) + (a % 4294967296) * (b % 4294967296) / 4294967296 : Nat) : Int)) :
    IntKind.u64.wrap (IntKind.u64.wrap (IntKind.u64.wrap ((a : Int) / 4294967296 * ((b : Int) / 4294967296)) + T / 4294967296) +
      IntKind.u64.wrap (bits .and .u64 T 4294967295 + IntKind.u64.wrap (bits .and .u64 (a : Int) 4294967295 * ((b : Int) / 4294967296))) / 4294967296) = ((a * b / 18446744073709551616 : Nat) : Int) := by
  subst hT
  obtain ⟨h1, h2, h3, h4⟩ := Lib.mul64_hi a b ha hb
  have h5 := Lib.half_mul_le (a := a / 4294967296) (b := b / 4294967296) (by omega) (by omega)
  have h6 := Lib.half_mul_le (a := a % 4294967296) (b := b / 4294967296) (by omega) (by omega)
  have hq : a * b / 18446744073709551616 < 18446744073709551616 := by
    have : a * b < 18446744073709551616 * 18446744073709551616 := Nat.mul_lt_mul'' ha hb
    exact Nat.div_lt_of_lt_mul this
  rw [and_mask _ h2, and_mask a ha, show ((a : Int) / 4294967296) = ((a / 4294967296 : Nat) : Int) from rfl, show ((b : Int) / 4294967296) = ((b / 4294967296 : Nat) : Int) from rfl,
    ← Int.natCast_mul, ← Int.natCast_mul, u64_nat _ (by omega), u64_nat _ (by omega), ← Int.natCast_add, u64_nat _ (by omega)]
  generalize (a / 4294967296) * (b % 4294967296) + (a % 4294967296) * (b % 4294967296) / 4294967296 = t at *
  rw [show (((t : Nat) : Int) / 4294967296) = ((t / 4294967296 : Nat) : Int) from rfl, ← Int.natCast_add, u64_nat _ (by omega)]
  rw [show ((((t % 4294967296 + a % 4294967296 * (b / 4294967296) : Nat)) : Int) / 4294967296) = (((t % 4294967296 + a % 4294967296 * (b / 4294967296)) / 4294967296 : Nat) : Int) from rfl, ← Int.natCast_add, h4, u64_nat _ hq]

theorem lo_walk (a b : Nat) : IntKind.u64.wrap ((a : Int) * (b : Int)) = ((a * b % 18446744073709551616 : Nat) : Int) := by
  rw [IntKind.wrap_u64, ← Int.natCast_mul]; rfl

/-- the high and the low word of a product -/
def hiN (a b : Nat) : Int := ((a * b / 18446744073709551616 : Nat) : Int)
def loN (a b : Nat) : Int := ((a * b % 18446744073709551616 : Nat) : Int)

end Go.Proofs.YtjfdbigkbgolmaaGreatDoor
namespace Go
set_option linter.unusedVariables false
set_option linter.unusedSimpArgs false
open Go.RowKit

/-- what a world has grown by: further blocks, and its count of draws -/
structure Growth where
  objs : Array Obj
  drawn : Nat
instance : Nonempty Growth := ⟨⟨#[], 0⟩⟩

/-- w, with further blocks, and another count of draws. -/
def World.growBy (w : World) (p : Growth) : World := { w with heap := w.heap ++ p.objs, drawn := p.drawn }

section
variable (w : World) (p q : Growth)

theorem World.heap_growBy {n : Nat} (h : n < w.heap.size) : (w.growBy p).heap[n]? = w.heap[n]? := by
  show (w.heap ++ p.objs)[n]? = _
  rw [Array.getElem?_append_left h]

theorem World.lt_of_isSome {w : World} {a : Addr} (h : (w.cell? a).isSome = true) : a.block < w.heap.size := by
  obtain ⟨v, hv⟩ := Option.isSome_iff_exists.1 h
  exact World.block_lt_of_cell? _ _ hv

/-- copies that no rule lays open -/
def World.cellOf (w : World) (a : Addr) : Option Value := w.cell? a
def World.frozenOf (w : World) (a : Addr) : Bool := w.frozen? a
def World.setCellOf (w : World) (a : Addr) (v : Value) : World := w.setCell a v

theorem World.cell?_growBy' {a : Addr} (h : a.block < w.heap.size) : (w.growBy p).cell? a = w.cell? a := by
  have h1 := w.heap_growBy p h
  unfold World.cell?
  rw [h1]
theorem World.frozen?_growBy' {a : Addr} (h : a.block < w.heap.size) : (w.growBy p).frozen? a = w.frozen? a := by
  have h1 := w.heap_growBy p h
  unfold World.frozen?
  rw [h1]
theorem World.frozen?_high {w : World} {a : Addr} (h : w.heap.size ≤ a.block) : w.frozen? a = false := by
  unfold World.frozen?
  rw [Array.getElem?_eq_none h]

@[go_sem] theorem World.cell?_growBy (n i : Nat) : (w.growBy p).cell? ⟨n, i, none⟩ = (w.cell? ⟨n, i, none⟩).or ((w.growBy p).cellOf ⟨n, i, none⟩) := by
  cases h : w.cell? ⟨n, i, none⟩ with
  | none => rfl
  | some v => rw [World.cell?_growBy' w p (World.block_lt_of_cell? _ _ h), h]; rfl
@[go_sem 50] theorem World.cell?_alloc_or (o : Obj) (n i : Nat) : (w.alloc o).cell? ⟨n, i, none⟩ = (w.cell? ⟨n, i, none⟩).or ((w.alloc o).cellOf ⟨n, i, none⟩) := by
  cases h : w.cell? ⟨n, i, none⟩ with
  | none => rfl
  | some v => rw [World.cell?_alloc_lt w o _ (World.block_lt_of_cell? _ _ h), h]; rfl

@[go_sem] theorem World.frozen?_growBy (n i : Nat) : (w.growBy p).frozen? ⟨n, i, none⟩ = (w.frozen? ⟨n, i, none⟩ || ((w.cell? ⟨n, i, none⟩).isNone && (w.growBy p).frozenOf ⟨n, i, none⟩)) := by
  by_cases hb : n < w.heap.size
  · rw [World.frozen?_growBy' w p (a := ⟨n, i, none⟩) hb]
    unfold World.frozenOf
    rw [World.frozen?_growBy' w p (a := ⟨n, i, none⟩) hb]
    cases w.frozen? ⟨n, i, none⟩ <;> simp
  · rw [World.frozen?_high (w := w) (a := ⟨n, i, none⟩) (by simpa using hb)]
    cases h : w.cell? ⟨n, i, none⟩ with
    | none => simp [World.frozenOf]
    | some v => exact absurd (World.block_lt_of_cell? _ _ h) hb
@[go_sem 50] theorem World.frozen?_alloc_or (o : Obj) (n i : Nat) : (w.alloc o).frozen? ⟨n, i, none⟩ = (w.frozen? ⟨n, i, none⟩ || ((w.cell? ⟨n, i, none⟩).isNone && (w.alloc o).frozenOf ⟨n, i, none⟩)) := by
  by_cases hb : n < w.heap.size
  · rw [World.frozen?_alloc_old w o ⟨n, i, none⟩ (Nat.ne_of_lt hb)]
    unfold World.frozenOf
    rw [World.frozen?_alloc_old w o ⟨n, i, none⟩ (Nat.ne_of_lt hb)]
    cases w.frozen? ⟨n, i, none⟩ <;> simp
  · rw [World.frozen?_high (w := w) (a := ⟨n, i, none⟩) (by simpa using hb)]
    cases h : w.cell? ⟨n, i, none⟩ with
    | none => simp [World.frozenOf]
    | some v => exact absurd (World.block_lt_of_cell? _ _ h) hb

theorem World.setCell_growBy' (n i : Nat) (v : Value) (h1 : n < w.heap.size) : (w.growBy p).setCell ⟨n, i, none⟩ v = (w.setCell ⟨n, i, none⟩ v).growBy p := by
  unfold World.growBy World.setCell
  simp only [World.mk.injEq, and_true]
  apply Array.ext_getElem?
  intro k
  rw [Array.getElem?_modify, Array.getElem?_append, Array.getElem?_append, Array.size_modify, Array.getElem?_modify]
  by_cases hk : n = k
  · subst hk; simp only [if_true]; rw [if_pos h1, if_pos h1]
  · simp only [hk, if_false]
@[go_sem] theorem World.setCell_growBy (n i : Nat) (v : Value) : (w.growBy p).setCell ⟨n, i, none⟩ v = if (w.cell? ⟨n, i, none⟩).isSome then (w.setCell ⟨n, i, none⟩ v).growBy p else (w.growBy p).setCellOf ⟨n, i, none⟩ v := by
  split
  · rename_i h; exact World.setCell_growBy' w p n i v (World.lt_of_isSome h)
  · rfl
@[go_sem 50] theorem World.setCell_alloc_or (o : Obj) (n i : Nat) (v : Value) : (w.alloc o).setCell ⟨n, i, none⟩ v = if (w.cell? ⟨n, i, none⟩).isSome then (w.setCell ⟨n, i, none⟩ v).alloc o else (w.alloc o).setCellOf ⟨n, i, none⟩ v := by
  split
  · rename_i h; exact World.setCell_alloc_past (w := w) o n i v (World.lt_of_isSome h)
  · rfl

@[simp, go_sem] theorem World.size_growBy : (w.growBy p).heap.size = w.heap.size + p.objs.size := Array.size_append
@[simp, go_sem] theorem World.tape_growBy : (w.growBy p).tape = w.tape := rfl
@[simp, go_sem] theorem World.os_growBy : (w.growBy p).os = w.os := rfl
@[simp, go_sem] theorem World.drew_growBy : (w.growBy p).drew = w.growBy ⟨p.objs, p.drawn + 1⟩ := rfl
@[simp, go_sem] theorem World.drewN_growBy (n : Nat) : (w.growBy p).drewN n = w.growBy ⟨p.objs, p.drawn + n⟩ := rfl
@[simp, go_sem] theorem World.growBy_growBy : (w.growBy p).growBy q = w.growBy ⟨p.objs ++ q.objs, q.drawn⟩ := by
  unfold World.growBy
  simp [Array.append_assoc]
@[simp, go_sem] theorem World.growBy_drew : w.drew.growBy p = w.growBy p := rfl
@[simp, go_sem] theorem World.growBy_drewN (n : Nat) : (w.drewN n).growBy p = w.growBy p := rfl

theorem le_alloc {B : Nat} {w : World} {o : Obj} (h : B ≤ w.heap.size) : B ≤ (w.alloc o).heap.size := by rw [World.size_alloc]; omega
theorem le_growBy {B : Nat} {w : World} {p : Growth} (h : B ≤ w.heap.size) : B ≤ (w.growBy p).heap.size := by rw [World.size_growBy]; omega
theorem le_setCell {B : Nat} {w : World} {a : Addr} {v : Value} (h : B ≤ w.heap.size) : B ≤ (w.setCell a v).heap.size := by rw [World.size_setCell]; omega
theorem le_drew {B : Nat} {w : World} (h : B ≤ w.heap.size) : B ≤ w.drew.heap.size := h
theorem le_drewN {B : Nat} {w : World} {n : Nat} (h : B ≤ w.heap.size) : B ≤ (w.drewN n).heap.size := h

theorem below_growBy : Below w.heap.size w (w.growBy p) :=
  ⟨rfl, rfl, rfl, by simp, fun _ h => w.heap_growBy p h⟩

theorem below_growBy' {B : Nat} {a w : World} (h : Below B a w) (hB : B ≤ w.heap.size) (p : Growth) : Below B a (w.growBy p) :=
  h.trans ((below_growBy w p).mono hB)

theorem grownBy_growBy : w.grownBy (w.growBy p) none := ⟨rfl, rfl, rfl, by simp, fun k hk _ => w.heap_growBy p hk⟩

theorem grow_of_below {w w' : World} (h : Below w.heap.size w w') : ∃ p, w' = w.growBy p := by
  refine ⟨⟨w'.heap.extract w.heap.size w'.heap.size, w'.drawn⟩, ?_⟩
  obtain ⟨h1, h2, h3, h4, h5⟩ := h
  cases w' with
  | mk heap' tape' drawn' os' output' =>
    simp only at h1 h2 h3 h4 h5
    unfold World.growBy
    simp only [World.mk.injEq]
    refine ⟨?_, h2, trivial, h1, h3⟩
    apply Array.ext_getElem?
    intro k
    by_cases hk : k < w.heap.size
    · rw [Array.getElem?_append_left hk]; exact h5 k hk
    · rw [Array.getElem?_append_right (by omega), Array.getElem?_extract]
      by_cases hk2 : k < heap'.size
      · rw [if_pos (by omega), show w.heap.size + (k - w.heap.size) = k from by omega]
      · rw [if_neg (by omega)]
        exact Array.getElem?_eq_none (by omega)

end

section
variable {P : Program}

/-- A callee that only makes memory, met in a world that has only grown. -/
theorem Calls.grow_of {f : FuncId} {args : Array Value} {w : World} {p : Growth} {v : Value}
    (h : Calls P f args (w.growBy p) fun e w' => e = .returned v ∧ Below (w.growBy p).heap.size (w.growBy p) w') :
    Calls P f args (w.growBy p) fun e w' => e = .returned v ∧ ∃ q, w' = w.growBy q :=
  h.mono fun _ _ ⟨he, hb⟩ => ⟨he, by obtain ⟨q, rfl⟩ := grow_of_below hb; exact ⟨_, World.growBy_growBy w p q⟩⟩

/-- .. that leaves the world as it is -/
theorem Calls.grow_of_same {f : FuncId} {args : Array Value} {w : World} {p : Growth} {v : Value}
    (h : Calls P f args (w.growBy p) fun e w' => e = .returned v ∧ w.growBy p = w') :
    Calls P f args (w.growBy p) fun e w' => e = .returned v ∧ ∃ q, w' = w.growBy q :=
  h.mono fun _ _ ⟨he, hb⟩ => ⟨he, p, hb.symm⟩

/-- **A drawn region, walked once in the order of the text, over the worlds that have only grown.** -/
theorem wp_region_grow {id : Nat} {Q : Exit → Act → World → Prop} {a : Act} {w : World} {l : List Oper} (hm : P.follows .mixedOrders = true) (hB : Region.lexB .any l.toArray = true)
    (h : wpQuiet P l.toArray (fun w' => ∃ p, w' = w.growBy p) (fun a' => ∀ w', (∃ p, w' = w.growBy p) → Q .normal a' w') l a) : (Code.region id l.toArray true).wp P Q a w :=
  wp_region_quiet (C := fun w' => ∃ p, w' = w.growBy p) hm hB ⟨⟨#[], w.drawn + 1⟩, by unfold World.growBy; simp⟩ (by simpa using h)

/-- .. from a world that has grown already: over the same base -/
theorem wp_region_grow2 {id : Nat} {Q : Exit → Act → World → Prop} {a : Act} {w : World} {p : Growth} {l : List Oper} (hm : P.follows .mixedOrders = true) (hB : Region.lexB .any l.toArray = true)
    (h : wpQuiet P l.toArray (fun w' => ∃ p, w' = w.growBy p) (fun a' => ∀ w', (∃ p, w' = w.growBy p) → Q .normal a' w') l a) : (Code.region id l.toArray true).wp P Q a (w.growBy p) :=
  wp_region_quiet (C := fun w' => ∃ p, w' = w.growBy p) hm hB ⟨⟨p.objs, p.drawn + 1⟩, rfl⟩ (by simpa using h)

/-- the world at hand, under a name of its own -/
theorem wp_world_alloc {c : Code} {Q : Exit → Act → World → Prop} {a : Act} {w : World} {o : Obj} (h : ∀ W, Below w.heap.size w W → W.heap[w.heap.size]? = some o → c.wp P Q a W) : c.wp P Q a (w.alloc o) :=
  h _ ((Below.refl _ _).alloc (Nat.le_refl _) o) (by unfold World.alloc; simp)
theorem cell_of_block {W : World} {b : Nat} {c : Array Value} {t : TypeId} {f : Nat × Nat} (h : W.heap[b]? = some (.cells c t f)) (i : Nat) : W.cell? ⟨b, i, none⟩ = c[i]? := by
  unfold World.cell?
  rw [h]
  rfl

theorem wp_world {c : Code} {Q : Exit → Act → World → Prop} {a : Act} {w : World} (h : ∀ W, W = w → c.wp P Q a W) : c.wp P Q a w := h w rfl

end
end Go
namespace Go
set_option linter.unusedVariables false
set_option linter.unusedSimpArgs false
open Go.RowKit

section
variable {P : Program} {ops : Array Oper} {md : Region.Mode} {C : World → Prop}

/-- The head, whatever order is picked: at its end 'L'. -/
def wpHead (P : Program) (md : Region.Mode) (ops : Array Oper) (C : World → Prop) (n : Nat) (L : Array Bool → Act → Prop) : Nat → Array Bool → Act → Prop
  | 0, s, a => L s a
  | f + 1, s, a => Region.ready md ops s ≠ [] ∧ ∀ i ∈ Region.ready md ops s, i < n ∧ qOp P ops C i (wpHead P md ops C n L f (s.setIfInBounds i true)) a

theorem wpAny_of_wpHead {n g : Nat} {L : Array Bool → Act → Prop} {Q : Exit → Act → World → Prop} (hL : ∀ s a w, C w → L s a → wpAny P md ops Q g s a w) :
    ∀ (f : Nat) (s : Array Bool) (a : Act) (w : World), C w → wpHead P md ops C n L f s a → wpAny P md ops Q (f + g) s a w := by
  intro f
  induction f with
  | zero => intro s a w hw h; rw [Nat.zero_add]; exact hL _ _ _ hw h
  | succ f ih =>
    intro s a w hw h
    rw [Nat.succ_add]
    refine ⟨fun he => absurd he h.1, fun i hi => ?_⟩
    exact wpOp_of_qOp hw (fun a' w' hw' h' => ih _ a' w' hw' h') (h.2 i hi).2

/-- which operations come up while the head's i is not done: the head's alone -/
theorem head_only {n i : Nat} {s : Array Bool} (hs : Region.sinkB md ops n = true) (hc : Region.chainB md ops n = true) (hn : n < ops.size) (inv : HeadInv md ops n s) (hi : i < n) (hun : s.getD i true = false) :
    ∀ j ∈ Region.ready md ops s, j < n := by
  intro j hj
  by_cases h : j < n
  · exact h
  · exact absurd hj (tail_waits hs hc hn inv _ i rfl hi hun j (by omega))

theorem wpHead_take {n i : Nat} {oi : Oper} {v : Value} {L : Array Bool → Act → Prop} (hi : ops[i]? = some oi) (hsel : ∀ (j : Nat) (o : Oper) cs b, ops[j]? = some o → o.op ≠ .select cs b)
    (hs : Region.sinkB md ops n = true) (hc : Region.chainB md ops n = true) (hn : n < ops.size) (hin : i < n)
    (hdone : ∀ s a, L s a → ∀ j ∈ Region.ready md ops s, n ≤ j) (f : Nat) :
    ∀ (s : Array Bool) (a : Act), HeadInv md ops n s →
      (∀ j oj, ops[j]? = some oj → j ≠ i → s.getD j true = false → (∀ e ∈ oj.after, Region.binds md e = true → e.on ≠ i) → oi.apart ops oj = true) →
      i ∈ Region.ready md ops s → YieldsIn P ops C oi v a →
      wpHead P md ops C n L f (s.setIfInBounds i true) (a.put oi.dst v) → wpHead P md ops C n L (f + 1) s a := by
  induction f with
  | zero =>
    intro s a inv _ hr hy H
    have hlt := head_only hs hc hn inv hin (mem_ready.1 hr).1
    refine ⟨List.ne_nil_of_mem hr, fun j hj => ⟨hlt j hj, ?_⟩⟩
    rcases Nat.decEq j i with hji | hji
    · have h1 := hdone _ _ H j (ready_mono hj hji)
      have h2 := hlt j hj
      omega
    · subst hji; exact hy.qOp hi H
  | succ f ih =>
    intro s a inv hfree hr hy H
    have hlt := head_only hs hc hn inv hin (mem_ready.1 hr).1
    refine ⟨List.ne_nil_of_mem hr, fun j hj => ⟨hlt j hj, ?_⟩⟩
    rcases Nat.decEq j i with hji | hji
    · obtain ⟨hjun, oj, hoj, hall⟩ := mem_ready.1 hj
      have hno : ∀ e ∈ oj.after, Region.binds md e = true → e.on ≠ i := by
        intro e he hb heq
        have h1 := hall e he hb
        rw [heq, getD_both (mem_ready.1 hr).1] at h1
        cases h1
      have h1 := (H.2 j (ready_mono hj hji)).2
      have h2 := qOp_put hoj (hfree j oj hoj hji hjun hno) (fun cs b => hsel i oi cs b hi) (fun cs b => hsel j oj cs b hoj) hy h1
      refine qOp_mono (fun a' h3 => ih (s.setIfInBounds j true) a' (inv.set hj (hlt j hj)) ?_ (ready_mono hr (Ne.symm hji)) h3.1 ?_) h2
      · intro k ok hk hki hun hnk
        refine hfree k ok hk hki ?_ hnk
        rcases Nat.decEq j k with hjk | hjk
        · rw [getD_set_ne true hjk] at hun; exact hun
        · subst hjk; exact hjun
      · rw [Array.setIfInBounds_comm _ _ hji]; exact h3.2
    · subst hji; exact hy.qOp hi H

theorem wpHead_lex {n g : Nat} {Lq : Act → Prop} (hsel : Region.noSelect ops = true) (hs : Region.sinkB md ops n = true) (hc : Region.chainB md ops n = true) (hn : n < ops.size) (l : List Oper) :
    ∀ (k : Nat) (s : Array Bool) (a : Act), (∀ j, j < l.length → l[j]? = ops[k + j]?) → k + l.length = n → HeadInv md ops n s →
    Region.lexHead md ops g l.length k s = true → wpQuiet P ops C Lq l a →
    wpHead P md ops C n (fun s' a' => Region.seqB md ops g n s' = true ∧ Lq a') l.length s a := by
  induction l with
  | nil =>
    intro k s a _ hk _ hB h
    obtain rfl : k = n := by simpa using hk
    exact ⟨by simpa [Region.lexHead] using hB, h⟩
  | cons o l ih =>
    intro k s a hl hk inv hB h
    have h0 : ops[k]? = some o := by simpa using (hl 0 (by simp)).symm
    simp only [List.length_cons] at hk
    simp only [List.length_cons, Region.lexHead, Bool.and_eq_true] at hB
    obtain ⟨⟨hr, hf⟩, hB'⟩ := hB
    have hr' : k ∈ Region.ready md ops s := by simpa using hr
    have hq : qOp P ops C k (wpQuiet P ops C Lq l) a := by unfold qOp; simp only [h0]; exact h
    obtain ⟨v, hy, hK⟩ := yieldsIn_of_qOp h0 hq
    refine wpHead_take h0 (Region.noSelect_spec hsel) hs hc hn (by omega) (fun s' a' hL => seqB_ready hL.1) l.length s a inv (Region.free_spec h0 hf) hr' hy ?_
    refine ih (k + 1) _ _ (fun j hj => ?_) (by omega) (inv.set hr' (by omega)) hB' hK
    have h1 := hl (j + 1) (by simp only [List.length_cons]; omega)
    rw [show k + 1 + j = k + (j + 1) from by omega]
    simpa using h1

/-- **The head once, in the order of the text; the tail behind it.** -/
theorem wp_region_tail {id : Nat} {Q : Exit → Act → World → Prop} {a : Act} {w : World} {l : List Oper} (n : Nat) (hm : P.follows .mixedOrders = true) (hB : Region.lexTailB .any l.toArray n = true) (hC : C w.drew)
    (h : wpQuiet P l.toArray C (fun a' => ∀ w', C w' → wpList P l.toArray Q (l.drop n) a' w') (l.take n) a) : (Code.region id l.toArray true).wp P Q a w := by
  simp only [Region.lexTailB, Bool.and_eq_true, decide_eq_true_eq] at hB
  obtain ⟨⟨⟨⟨hsel, hn⟩, hs⟩, hc⟩, hlex⟩ := hB
  have hn' : n < l.length := by simpa using hn
  have htl : (l.take n).length = n := by rw [List.length_take]; omega
  have hdl : (l.drop n).length = l.toArray.size - n := by simp
  have inv0 : HeadInv .any l.toArray n (Array.replicate l.toArray.size false) :=
    ⟨by simp, fun j oj _ hl => (by rw [getD_replicate_false] at hl; cases hl), fun t _ ht => getD_in (by simpa using ht) (getD_replicate_false _ _)⟩
  have H := wpHead_lex (md := .any) (g := l.toArray.size - n) hsel hs hc hn (l.take n) 0 _ a (fun j hj => by
    have hj' : j < n := by omega
    simp [hj']) (by simpa using htl) inv0 (by rw [htl]; exact hlex) h
  refine wp_region_any hm ?_
  have key := wpAny_of_wpHead (Q := Q) (g := l.toArray.size - n) (fun s a' w' hw' hL => by
    have h1 := wpAny_of_seq (md := .any) (Q' := Q) (l.drop n) n s a' w' (fun j => by simp [List.getElem?_drop]) (by rw [hdl]; exact hL.1) (hL.2 w' hw')
    rwa [hdl] at h1) _ _ _ _ hC H
  rw [htl, show n + (l.toArray.size - n) = l.toArray.size from by omega] at key
  exact key

theorem wp_region_grow_tail {id : Nat} {Q : Exit → Act → World → Prop} {a : Act} {w : World} {l : List Oper} (n : Nat) (hm : P.follows .mixedOrders = true) (hB : Region.lexTailB .any l.toArray n = true)
    (h : wpQuiet P l.toArray (fun w' => ∃ p, w' = w.growBy p) (fun a' => ∀ w', (∃ p, w' = w.growBy p) → wpList P l.toArray Q (l.drop n) a' w') (l.take n) a) : (Code.region id l.toArray true).wp P Q a w :=
  wp_region_tail n hm hB ⟨⟨#[], w.drawn + 1⟩, by unfold World.growBy World.drew; simp⟩ h
theorem wp_region_grow_tail2 {id : Nat} {Q : Exit → Act → World → Prop} {a : Act} {w : World} {p : Growth} {l : List Oper} (n : Nat) (hm : P.follows .mixedOrders = true) (hB : Region.lexTailB .any l.toArray n = true)
    (h : wpQuiet P l.toArray (fun w' => ∃ p, w' = w.growBy p) (fun a' => ∀ w', (∃ p, w' = w.growBy p) → wpList P l.toArray Q (l.drop n) a' w') (l.take n) a) : (Code.region id l.toArray true).wp P Q a (w.growBy p) :=
  wp_region_tail n hm hB ⟨⟨p.objs, p.drawn + 1⟩, rfl⟩ h
end
end Go
namespace Go
set_option linter.unusedVariables false
set_option linter.unusedSimpArgs false
open Go.RowKit Go.ChangeShapes Go.WideShapes Go.ChangeAt

section
variable {H : Type} {enc : TypeId × Value → H} {P : Program}

theorem trodAll_below (hl : laidOutB P = true) {W W' : World} (hb : Below W.heap.size W W') : ∀ {ts : List TypeId} {vs : List Value} {ds : List (DataW H)} {ps : List MemPlace},
    (ts.all fun t => P.readableRec t && decide (t < P.types.size)) = true → (∀ x ∈ ps, x.block < W.heap.size) →
    DataW.TrodAll enc P W 0 (fun _ => true) true ts vs ds ps → DataW.TrodAll enc P W' 0 (fun b => decide (b < W.heap.size)) true ts vs ds ps
  | [], [], [], _, _, _, h => h
  | [], _ :: _, _, _, _, _, h => h.elim
  | [], [], _ :: _, _, _, _, h => h.elim
  | _ :: _, [], _, _, _, _, h => h.elim
  | _ :: _, _ :: _, [], _, _, _, h => h.elim
  | t :: ts, v :: vs, d :: ds, ps, hr, hlt, h => by
    obtain ⟨p, q, h1, h2, rfl⟩ := h
    simp only [List.all_cons, Bool.and_eq_true, decide_eq_true_eq] at hr
    exact ⟨p, q, Below.trod hl hr.1.1 hr.1.2 h1 hb (fun x hx => hlt x (List.mem_append.2 (.inl hx))),
      trodAll_below hl hb hr.2 (fun x hx => hlt x (List.mem_append.2 (.inr hx))) h2, rfl⟩

/-- the post of a law: it returns true, and what came in reads as it did -/
theorem law_post {f : Func} {s : ChangeSpec} {W W' : World} {args : Array Value} {ds : List (DataW H)} {before : List MemPlace} {T : TypeId}
    (hl : laidOutB P = true) (hr : (f.params.toList.all fun t => P.readableRec t && decide (t < P.types.size)) = true) (hv : s.vars = [])
    (hT : f.resultTypes = #[T]) (hT2 : P.underlying T = some .bool)
    (hs : s.fn H (ds ++ []) = { results := [.lit (.bool true)], args := ds })
    (hW : DataW.Whole enc P f.params.toList s.vars false W args.toList ds [] before)
    (hb : Below W.heap.size W W') : s.post enc P f false true false false W args (.bool true) W' := by
  have hlt := fun x hx => hW.lt x hx
  have hW2 := hW
  obtain ⟨p, q, hA, hV, rfl, hz, hn⟩ := hW
  rw [hv] at hV
  obtain ⟨-, rfl⟩ := trodVars_none hV
  refine ⟨ds, [], p ++ [], [], p, [], hW2, ?_, ?_, ?_, hb.frame _, fun h => by cases h⟩
  · rw [hs, hT]
    exact trodAll_cons_mk (shut_bool hT2 true) trodAll_mk0
  · rw [hs]
    exact trodAll_below hl hb hr (fun x hx => hlt x (by simpa using hx)) hA
  · rw [hs, hv]
    exact rfl
theorem trodAll_lengths {w : World} {b : Nat} {sp : Nat → Bool} {hd : Bool} : ∀ {ts : List TypeId} {vs : List Value} {ds : List (DataW H)} {ps : List MemPlace},
    DataW.TrodAll enc P w b sp hd ts vs ds ps → vs.length = ts.length ∧ ds.length = ts.length
  | [], [], [], _, _ => ⟨rfl, rfl⟩
  | [], _ :: _, _, _, h => h.elim
  | [], [], _ :: _, _, h => h.elim
  | _ :: _, [], _, _, h => h.elim
  | _ :: _, _ :: _, [], _, h => h.elim
  | _ :: _, _ :: _, _ :: _, _, h => by
    obtain ⟨p, q, h1, h2, rfl⟩ := h
    have := trodAll_lengths h2
    simp [this.1, this.2]

/-- a law's call, from its walk -/
theorem law_calls {k : FuncId} {f : Func} {s : ChangeSpec} {W : World} {args : Array Value} {ds gs : List (DataW H)} {before : List MemPlace} (T : TypeId)
    (hl : laidOutB P = true) (hr : (f.params.toList.all fun t => P.readableRec t && decide (t < P.types.size)) = true) (hv : s.vars = [])
    (hT : f.resultTypes = #[T]) (hT2 : P.underlying T = some .bool)
    (hs : ∀ ds : List (DataW H), ds.length = f.params.toList.length → s.fn H (ds ++ []) = { results := [.lit (.bool true)], args := ds })
    (hW : DataW.Whole enc P f.params.toList s.vars false W args.toList ds gs before)
    (hwalk : args.toList.length = f.params.toList.length → DataW.Whole enc P f.params.toList [] false W args.toList ds [] before → Calls P k args W fun e W' => e = .returned (.bool true) ∧ Below W.heap.size W W') :
    Calls P k args W fun e W' => ∃ v, e = .returned v ∧ s.post enc P f false true false false W args v W' := by
  have hW2 := hW
  obtain ⟨p, q, hA, hV, hb, hz, hn⟩ := hW2
  rw [hv] at hV
  obtain ⟨rfl, -⟩ := trodVars_none hV
  obtain ⟨l1, l2⟩ := trodAll_lengths hA
  have hW3 := hW
  rw [hv] at hW3
  exact (hwalk l1 hW3).mono fun e W' ⟨he, hbel⟩ => ⟨_, he, law_post hl hr hv hT hT2 (hs ds l2) hW hbel⟩

/-! ### what came in by value: ints, and rows of ints -/
variable {w : World} {r : Reach} {base : Nat} {t : TypeId} {v : Value} {k : IntKind}
theorem okWide_int_has (ht : P.underlying t = some (.int k)) (h : Value.okWide P w r base t v) : ∃ n, v = .int k n ∧ k.has n := by
  simp only [Value.okWide, ht, Cell.okWide] at h
  cases v <;> simp_all [Cell.ok]

theorem list_ints (k : IntKind) : ∀ l : List Value, (∀ v ∈ l, ∃ n, v = Value.int k n ∧ k.has n) → ∃ xs : List Int, l = xs.map (Value.int k) ∧ ∀ x ∈ xs, k.has x
  | [], _ => ⟨[], rfl, fun _ h => by cases h⟩
  | v :: l, h => by
    obtain ⟨n, rfl, hn⟩ := h v (by simp)
    obtain ⟨xs, rfl, hx⟩ := list_ints k l fun u hu => h u (by simp [hu])
    exact ⟨n :: xs, rfl, fun x hm => by
      rcases List.mem_cons.1 hm with rfl | hm
      · exact hn
      · exact hx x hm⟩

/-- a struct or an array whose cells are all ints of one kind -/
theorem okWide_ints {n : Nat} {ts : List TypeId} (hrow : (match P.underlying t with | some (.struct _) | some (.array _ _) => true | _ => false) = true) (hc : P.cellsOf t = n)
    (hts : P.cellTypes P.depth t = some ts) (hk : (ts.all fun u => match P.underlying u with | some (.int k') => k' == k | _ => false) = true) (h : Value.okWide P w r base t v) :
    ∃ xs : List Int, xs.length = n ∧ v = .agg (xs.map (Value.int k)).toArray ∧ ∀ x ∈ xs, k.has x := by
  have h2 : ∃ cs, v = .agg cs ∧ cs.size = P.cellsOf t ∧ Row.okWide P w r base t cs := by
    unfold Value.okWide at h
    split at hrow <;> simp_all
  obtain ⟨cs, rfl, hn, ts', hts', -, hcell⟩ := h2
  rw [hts] at hts'
  cases hts'
  obtain ⟨xs, hxs, hx⟩ := list_ints k cs.toList fun v hv => by
    obtain ⟨i, hi⟩ := List.getElem?_of_mem hv
    obtain ⟨u, hu, hcu⟩ := hcell i v (by simpa using hi)
    have hku := List.all_eq_true.1 hk u (List.mem_of_getElem? hu)
    split at hku
    · rename_i k' hk'
      have hkk : k' = k := by simpa using hku
      subst hkk
      simp only [Cell.okWide, hk'] at hcu
      cases v <;> simp_all [Cell.ok]
    · cases hku
  refine ⟨xs, ?_, ?_, hx⟩
  · have : cs.toList.length = xs.length := by rw [hxs]; simp
    simp at this
    omega
  · rw [← hxs]
end
end Go

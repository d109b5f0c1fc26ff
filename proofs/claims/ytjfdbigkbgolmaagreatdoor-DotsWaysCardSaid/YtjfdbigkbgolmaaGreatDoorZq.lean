/-
  hachureref01: size, sign, product, Sign2 (turned out of chapter 01's texts).
  hachureref04: Sub, bounded, Side, On, less, ordered, Meet: what they return.
-/
import Derived.Test.YtjfdbigkbgolmaaGreatDoorZa
import Derived.Test.YtjfdbigkbgolmaaGreatDoorZb
import Derived.Test.YtjfdbigkbgolmaaGreatDoorZh
import Derived.Test.YtjfdbigkbgolmaaGreatDoorZc
import Derived.BigQuiet
import Derived.Deep.QuietTactic
import Derived.Deep.AppendLies
import Derived.Deep.RegionLaw
import Derived.Deep.DrawnRows
import Derived.Deep.CutBlock
import Derived.Deep.DeepCutAuto
namespace Go.Proofs.YtjfdbigkbgolmaaGreatDoor
set_option linter.unusedVariables false
set_option linter.unusedSimpArgs false
open Go.RowKit Go.Shelf
set_option maxHeartbeats 400000 in
theorem rsize_any (n : Int) (w : World) (h0 : -9223372036854775808 ≤ n) (h1 : n ≤ 9223372036854775807) :
    Calls Tryz.prog 168 #[.int .i64 n] w fun e w' => e = .returned (.int .u64 n.natAbs) ∧ w = w' := by
  by_cases h : n < 0
  · go_enter Tryz.func168, Tryz.ntmps168
    go_wp2
    go_ret
    exact ⟨ret_int (by rw [IntKind.wrap_u64, IntKind.wrap_u64]; omega), rfl⟩
  · go_enter Tryz.func168, Tryz.ntmps168
    go_wp2
    go_ret
    exact ⟨ret_int (by omega), rfl⟩
set_option maxHeartbeats 400000 in
theorem rsgn_any (n : Int) (w : World) :
    Calls Tryz.prog 166 #[.int .i64 n] w fun e w' => e = .returned (.int .i64 n.sign) ∧ w = w' := by
  rcases Int.lt_trichotomy n 0 with h | h | h
  · have h1 : ¬ (0 < n) := by omega
    go_enter Tryz.func166, Tryz.ntmps166
    go_wp2
    go_ret
    exact ⟨ret_int (Int.sign_eq_neg_one_of_neg h).symm, rfl⟩
  · subst h
    go_enter Tryz.func166, Tryz.ntmps166
    go_wp2
    go_ret
    exact ⟨rfl, rfl⟩
  · have h1 : ¬ (n < 0) := by omega
    go_enter Tryz.func166, Tryz.ntmps166
    go_wp2
    go_ret
    exact ⟨ret_int (Int.sign_eq_one_of_pos h).symm, rfl⟩
set_option maxHeartbeats 400000 in
theorem rproduct_any (a b : Nat) (w : World) (ha : a < 18446744073709551616) (hb : b < 18446744073709551616) :
    Calls Tryz.prog 167 #[.int .u64 a, .int .u64 b] w fun e w' => e = .returned (.agg #[.int .u64 (hiN a b), .int .u64 (loN a b)]) ∧ Below w.heap.size w w' := by
  have hh := hi_walk a b ha hb _ (mid_walk a b ha hb)
  rw [Int.add_comm (bits .and .u64 _ _)] at hh
  have H := Lib.hid hh
  clear hh
  go_enter Tryz.func167, Tryz.ntmps167
  go_wp2
  refine bodyPost_ret (v := .agg #[.int .u64 (hiN a b), .int .u64 (loN a b)]) ?_ rfl ⟨rfl, ?_⟩
  · rw [show hiN a b = _ from H.out.symm, show loN a b = _ from (lo_walk a b).symm]; simp [results, Tryz.results167, go_sem]
  · exact (Below.refl _ _).alloc (Nat.le_refl _) _
theorem bcell {W w1 : World} (hb : Below W.heap.size W w1) : (∀ b o, b < W.heap.size → w1.cell? ⟨b, o, none⟩ = W.cell? ⟨b, o, none⟩) ∧ (∀ b o, b < W.heap.size → w1.frozen? ⟨b, o, none⟩ = W.frozen? ⟨b, o, none⟩) :=
  ⟨fun b o h => hb.cell (p := ⟨b, o, none⟩) h, fun b o h => hb.frozen (p := ⟨b, o, none⟩) h⟩

theorem sgn_bd (n : Int) : -1 ≤ n.sign ∧ n.sign ≤ 1 := by rcases sign_cases n with h | h | h <;> rw [h] <;> decide
theorem sgn_mul_bd (a b : Int) : -1 ≤ a.sign * b.sign ∧ a.sign * b.sign ≤ 1 := by rw [← Int.sign_mul]; exact sgn_bd _
theorem cmp2_bd (a b c d : Int) : -1 ≤ cmp2 a b c d ∧ cmp2 a b c d ≤ 1 := by unfold cmp2 cmpI; split <;> exact sgn_bd _

theorem cmp2_nat (a b c d : Nat) : cmp2 (hiN a b) (loN a b) (hiN c d) (loN c d) = cmpI ((a * b : Nat) : Int) ((c * d : Nat) : Int) := cmp2_words _ _

theorem natAbs_lt (a : Int) (a0 : -9223372036854775808 ≤ a) (a1 : a ≤ 9223372036854775807) : a.natAbs < 18446744073709551616 := by omega

theorem drewN_below {B : Nat} {a w : World} (h : Below B a w) : ∀ n, Below B a (w.drewN n)
  | 0 => h
  | n + 1 => by
    have := drewN_below h n
    exact ⟨this.os, this.tape, this.output, this.size, this.block⟩

theorem closeB {w w1 w2 : World} {o1 o2 : Obj} (hb1 : Below w.heap.size w w1) (hb2 : Below (w1.alloc o1).heap.size (w1.alloc o1) w2) (n : Nat) : Below w.heap.size w ((w2.alloc o2).drewN n) := by
  have h1 := hb1.size
  have h2 := hb2.size
  simp at h2
  exact drewN_below (((hb1.alloc h1 o1).trans (hb2.mono (by simp; omega))).alloc (by omega) o2) n

theorem cmp2_gt (a b c d : Int) (h : c < a) : cmp2 a b c d = 1 := by unfold cmp2; rw [cmpI_gt h, if_neg (by decide)]
theorem cmp2_lt (a b c d : Int) (h : a < c) : cmp2 a b c d = -1 := by unfold cmp2; rw [cmpI_lt h, if_neg (by decide)]
theorem cmp2_same (a b d : Int) : cmp2 a b a d = cmpI b d := by unfold cmp2; rw [cmpI_eq, if_pos rfl]

set_option maxHeartbeats 1000000 in
theorem rsign2_any (a b c d : Int) (w : World) (a0 : -9223372036854775808 ≤ a) (a1 : a ≤ 9223372036854775807) (b0 : -9223372036854775808 ≤ b) (b1 : b ≤ 9223372036854775807)
    (c0 : -9223372036854775808 ≤ c) (c1 : c ≤ 9223372036854775807) (d0 : -9223372036854775808 ≤ d) (d1 : d ≤ 9223372036854775807) :
    Calls Tryz.prog 157 #[.int .i64 a, .int .i64 b, .int .i64 c, .int .i64 d] w fun e w' => e = .returned (.int .i64 (sign2 a b c d)) ∧ Below w.heap.size w w' := by
  obtain ⟨p0, p1⟩ := sgn_mul_bd a b
  obtain ⟨q0, q1⟩ := sgn_mul_bd c d
  by_cases h : a.sign * b.sign = c.sign * d.sign
  · have hb : (a.sign * b.sign != c.sign * d.sign) = false := by simp [h]
    have HE : Hid (a.sign * b.sign * cmp2 (hiN a.natAbs b.natAbs) (loN a.natAbs b.natAbs) (hiN c.natAbs d.natAbs) (loN c.natAbs d.natAbs) = sign2 a b c d) := by rw [cmp2_nat]; exact sign2_eq h
    clear h
    go_enter Tryz.func157, Tryz.ntmps157
    go_wp2_with (first | (go_at_call 166; refine (rsgn_any _ _).mono ?_; rintro e w' ⟨rfl, rfl⟩) | (go_at_call 168; refine (rsize_any _ _ (by assumption) (by assumption)).mono ?_; rintro e w' ⟨rfl, rfl⟩))
    refine (rproduct_any _ _ _ (natAbs_lt a a0 a1) (natAbs_lt b b0 b1)).mono ?_
    rintro e w1 ⟨rfl, hb1⟩
    go_wp2_with (first | (go_at_call 166; refine (rsgn_any _ _).mono ?_; rintro e w' ⟨rfl, rfl⟩) | (go_at_call 168; refine (rsize_any _ _ (by assumption) (by assumption)).mono ?_; rintro e w' ⟨rfl, rfl⟩))
    refine (rproduct_any _ _ _ (natAbs_lt c c0 c1) (natAbs_lt d d0 d1)).mono ?_
    rintro e w2 ⟨rfl, hb2⟩
    generalize hiN a.natAbs b.natAbs = x0 at *
    generalize loN a.natAbs b.natAbs = x1 at *
    generalize hiN c.natAbs d.natAbs = y0 at *
    generalize loN c.natAbs d.natAbs = y1 at *
    have hc0 : w2.cell? ⟨w1.heap.size, 0, none⟩ = some (.int .u64 x0) := by rw [(bcell hb2).1 _ _ (by simp)]; simp
    have hc1 : w2.cell? ⟨w1.heap.size, 1, none⟩ = some (.int .u64 x1) := by rw [(bcell hb2).1 _ _ (by simp)]; simp
    have hz : w1.heap.size < w2.heap.size := by have := hb2.size; simp at this; omega
    go_wp2_with fail
    refine wp_loop_rounds 3 ?_
    rw [rounds_succ]
    rcases Int.lt_trichotomy x0 y0 with hx | hx | hx
    · have hn : ¬ y0 < x0 := by omega
      have HF := Lib.hid (cmp2_lt x0 x1 y0 y1 hx)
      go_wp2_with fail
      go_quiet (fail)
      go_wp2_with fail
      go_quiet (fail)
      go_wp2_with fail
      go_ret
      exact ⟨ret_int (by have h1 := HE.out; rw [HF.out] at h1; omega), by first | exact closeB hb1 hb2 _ | exact drewN_below (closeB hb1 hb2 _) _⟩
    · subst hx
      rcases Int.lt_trichotomy x1 y1 with hx | hx | hx
      · have hn : ¬ y1 < x1 := by omega
        have HF := Lib.hid ((cmp2_same x0 x1 y1).trans (cmpI_lt hx))
        go_wp2_with fail
        go_quiet (fail)
        go_wp2_with fail
        go_quiet (fail)
        go_wp2_with fail
        rw [rounds_succ]
        go_wp2_with fail
        go_quiet (fail)
        go_wp2_with fail
        go_quiet (fail)
        go_wp2_with fail
        go_ret
        exact ⟨ret_int (by have h1 := HE.out; rw [HF.out] at h1; omega), by first | exact closeB hb1 hb2 _ | exact drewN_below (closeB hb1 hb2 _) _⟩
      · subst hx
        have HF := Lib.hid ((cmp2_same x0 x1 x1).trans (cmpI_eq x1))
        go_wp2_with fail
        go_quiet (fail)
        go_wp2_with fail
        go_quiet (fail)
        go_wp2_with fail
        rw [rounds_succ]
        go_wp2_with fail
        go_quiet (fail)
        go_wp2_with fail
        go_quiet (fail)
        go_wp2_with fail
        rw [rounds_succ]
        go_wp2_with fail
        go_ret
        exact ⟨ret_int (by have h1 := HE.out; rw [HF.out] at h1; omega), by first | exact closeB hb1 hb2 _ | exact drewN_below (closeB hb1 hb2 _) _⟩
      · have hn : ¬ x1 < y1 := by omega
        have HF := Lib.hid ((cmp2_same x0 x1 y1).trans (cmpI_gt hx))
        go_wp2_with fail
        go_quiet (fail)
        go_wp2_with fail
        go_quiet (fail)
        go_wp2_with fail
        rw [rounds_succ]
        go_wp2_with fail
        go_quiet (fail)
        go_wp2_with fail
        go_ret
        exact ⟨ret_int (by have h1 := HE.out; rw [HF.out] at h1; omega), by first | exact closeB hb1 hb2 _ | exact drewN_below (closeB hb1 hb2 _) _⟩
    · have hn : ¬ x0 < y0 := by omega
      have HF := Lib.hid (cmp2_gt x0 x1 y0 y1 hx)
      go_wp2_with fail
      go_quiet (fail)
      go_wp2_with fail
      go_ret
      exact ⟨ret_int (by have h1 := HE.out; rw [HF.out] at h1; omega), by first | exact closeB hb1 hb2 _ | exact drewN_below (closeB hb1 hb2 _) _⟩
  · have HE := Lib.hid (sign2_ne h)
    have hb : (a.sign * b.sign != c.sign * d.sign) = true := by simp [h]
    clear h
    go_enter Tryz.func157, Tryz.ntmps157
    go_wp2_with (go_at_call 166; refine (rsgn_any _ _).mono ?_; rintro e w' ⟨rfl, rfl⟩)
    go_ret
    exact ⟨ret_int HE.out, Below.refl _ _⟩
end Go.Proofs.YtjfdbigkbgolmaaGreatDoor
namespace Go.Proofs.YtjfdbigkbgolmaaGreatDoor
set_option linter.unusedVariables false
set_option linter.unusedSimpArgs false
open Go.RowKit Go.Shelf Go.Maps
attribute [local go_sem] Oper.semAt_some

def bndP (p : Spot) : Bool := inR (-1152921504606846976) p.1 1152921504606846976 && inR (-1152921504606846976) p.2 1152921504606846976
theorem bndP_iff {p : Spot} : bndP p = true ↔ (-1152921504606846976 ≤ p.1 ∧ p.1 ≤ 1152921504606846976) ∧ -1152921504606846976 ≤ p.2 ∧ p.2 ≤ 1152921504606846976 := by simp [bndP, inR]
theorem rbounded_any {x y : Int} {b : Bool} (hb : bndP (x, y) = b) (w : World) :
    Calls Tryz.prog 133 #[.agg #[.int .i64 x, .int .i64 y]] w fun e w' => e = .returned (.bool b) ∧ Below w.heap.size w w' := by
  subst hb
  show Calls _ _ _ _ fun e w' => e = .returned (.bool (inR (-1152921504606846976) x 1152921504606846976 && inR (-1152921504606846976) y 1152921504606846976)) ∧ _
  obtain ⟨c1, h1⟩ : ∃ b, inR (-1152921504606846976) x 1152921504606846976 = b := ⟨_, rfl⟩
  obtain ⟨c2, h2⟩ : ∃ b, inR (-1152921504606846976) y 1152921504606846976 = b := ⟨_, rfl⟩
  rw [h1, h2]
  replace h1 := Lib.hid h1
  replace h2 := Lib.hid h2
  cases c1 <;>
  · go_enter Tryz.func133, Tryz.ntmps133
    go_wp2_with (go_at_call 93; refine (rbetween_eq (by first | with_reducible exact h1.out | with_reducible exact h2.out) _).mono ?_; rintro e w' ⟨rfl, rfl⟩)
    go_ret
    exact ⟨by first | rfl | (simp; done), (by repeat' (first | with_reducible exact Below.refl _ _ | with_reducible exact Nat.le_refl _ | with_reducible assumption | with_reducible refine Go.below_growBy' ?_ ?_ _ | with_reducible refine Below.alloc ?_ ?_ _ | with_reducible refine Below.setCell ?_ ?_ _ | with_reducible refine Below.drew ?_ | with_reducible refine Go.le_alloc ?_ | with_reducible refine Go.le_growBy ?_ | with_reducible refine Go.le_setCell ?_ | with_reducible refine Go.le_drew ?_ | omega | (dsimp only; omega)))⟩
theorem rsub_any (ax ay bx by_ : Int) (w : World) (h0 : -9223372036854775808 ≤ ax - bx) (h1 : ax - bx ≤ 9223372036854775807) (h2 : -9223372036854775808 ≤ ay - by_) (h3 : ay - by_ ≤ 9223372036854775807) :
    Calls Tryz.prog 99 #[.agg #[.int .i64 ax, .int .i64 ay], .agg #[.int .i64 bx, .int .i64 by_]] w fun e w' => e = .returned (.agg #[.int .i64 (ax - bx), .int .i64 (ay - by_)]) ∧ Below w.heap.size w w' := by
  go_enter Tryz.func99, Tryz.ntmps99
  go_wp2_with fail
  exact bodyPost_ret (v := .agg #[.int .i64 (ax - bx), .int .i64 (ay - by_)]) (by simp [results, Tryz.results99, go_sem]) rfl ⟨rfl, (by repeat' (first | with_reducible exact Below.refl _ _ | with_reducible exact Nat.le_refl _ | with_reducible assumption | with_reducible refine Go.below_growBy' ?_ ?_ _ | with_reducible refine Below.alloc ?_ ?_ _ | with_reducible refine Below.setCell ?_ ?_ _ | with_reducible refine Below.drew ?_ | with_reducible refine Go.le_alloc ?_ | with_reducible refine Go.le_growBy ?_ | with_reducible refine Go.le_setCell ?_ | with_reducible refine Go.le_drew ?_ | omega | (dsimp only; omega)))⟩

def sideF (a b p : Spot) : Int := if bndP a && bndP b && bndP p then sign2 (b.1 - a.1) (p.2 - a.2) (b.2 - a.2) (p.1 - a.1) else 0
theorem sign2_bd (a b c d : Int) : -1 ≤ sign2 a b c d ∧ sign2 a b c d ≤ 1 := sgn_bd _
theorem sideF_bd (a b p : Spot) : -1 ≤ sideF a b p ∧ sideF a b p ≤ 1 := by
  unfold sideF
  split
  · exact sign2_bd _ _ _ _
  · omega

theorem ptFields : Tryz.prog.underlying 25 = some (.struct (Tryz.prog.fieldsOf 25)) := by kernel_rfl
set_option maxRecDepth 100000 in
theorem eqlPt (ax ay bx by_ : Int) (w : World) : (binOp .eql 25 (.agg #[.int .i64 ax, .int .i64 ay]) (.agg #[.int .i64 bx, .int .i64 by_])).run Tryz.prog w = .ok (.bool (decide (ax = bx) && decide (ay = by_))) w := by
  have u3 := Tryz.underlying3
  have a3 := Tryz.isAgg3
  have z3 := Tryz.sizeOf3
  have hp : Tryz.prog.stoodInHeld 25 = false := by kernel_rfl
  rw [run_eql_struct, show (10000 : Nat) = 9999 + 1 from rfl, run_equalIn_agg w 9999 25 _ _ ptFields hp]
  simp only [Program.fieldsOf, Tryz.underlying25]
  go_simp
  by_cases h1 : ax = bx <;> by_cases h2 : ay = by_ <;> simp [h1, h2]
theorem guardPt (op : BinOp) (a b : Operand) (xs ys : Array Value) (w : World) : (eqGuard op 25 a b (.agg xs) (.agg ys)).run Tryz.prog w = .ok () w := run_eqGuard_agg w op 25 a b xs ys (by kernel_rfl)

set_option maxHeartbeats 1000000 in
theorem rside_any (ax ay bx by_ px py : Int) (r : Int) (hr : sideF (ax, ay) (bx, by_) (px, py) = r) (w : World) :
    Calls Tryz.prog 134 #[.agg #[.int .i64 ax, .int .i64 ay], .agg #[.int .i64 bx, .int .i64 by_], .agg #[.int .i64 px, .int .i64 py]] w fun e w' => e = .returned (.int .i64 r) ∧ Below w.heap.size w w' := by
  subst hr
  obtain ⟨c1, h1⟩ : ∃ b, bndP (ax, ay) = b := ⟨_, rfl⟩
  obtain ⟨c2, h2⟩ : ∃ b, bndP (bx, by_) = b := ⟨_, rfl⟩
  obtain ⟨c3, h3⟩ : ∃ b, bndP (px, py) = b := ⟨_, rfl⟩
  unfold sideF
  rw [h1, h2, h3]
  by_cases hall : c1 = true ∧ c2 = true ∧ c3 = true
  · obtain ⟨rfl, rfl, rfl⟩ := hall
    obtain ⟨⟨a0, a1⟩, a2, a3⟩ := bndP_iff.1 h1
    obtain ⟨⟨b0, b1⟩, b2, b3⟩ := bndP_iff.1 h2
    obtain ⟨⟨p0, p1⟩, p2, p3⟩ := bndP_iff.1 h3
    simp only at a0 a1 a2 a3 b0 b1 b2 b3 p0 p1 p2 p3
    replace h1 := Lib.hid h1
    replace h2 := Lib.hid h2
    replace h3 := Lib.hid h3
    simp only [Bool.and_self, if_true]
    go_enter Tryz.func134, Tryz.ntmps134
    go_wp2_with (first | (go_at_call 133; refine (rbounded_any (by first | with_reducible exact h1.out | with_reducible exact h2.out | with_reducible exact h3.out) _).mono ?_; rintro e w' ⟨rfl, hb_⟩; obtain ⟨p, rfl⟩ := grow_of_below hb_; clear hb_) | (go_at_call 99; refine (rsub_any _ _ _ _ _ (by omega) (by omega) (by omega) (by omega)).mono ?_; rintro e w' ⟨rfl, hb_⟩; obtain ⟨p, rfl⟩ := grow_of_below hb_; clear hb_) | (go_at_call 157; refine (rsign2_any _ _ _ _ _ (by omega) (by omega) (by omega) (by omega) (by omega) (by omega) (by omega) (by omega)).mono ?_; rintro e w' ⟨rfl, hb_⟩; obtain ⟨p, rfl⟩ := grow_of_below hb_; clear hb_))
    go_ret
    exact ⟨rfl, (by repeat' (first | with_reducible exact Below.refl _ _ | with_reducible exact Nat.le_refl _ | with_reducible assumption | with_reducible refine Go.below_growBy' ?_ ?_ _ | with_reducible refine Below.alloc ?_ ?_ _ | with_reducible refine Below.setCell ?_ ?_ _ | with_reducible refine Below.drew ?_ | with_reducible refine Go.le_alloc ?_ | with_reducible refine Go.le_growBy ?_ | with_reducible refine Go.le_setCell ?_ | with_reducible refine Go.le_drew ?_ | omega | (dsimp only; omega)))⟩
  · rw [if_neg (by simpa [and_assoc] using hall)]
    replace h1 := Lib.hid h1
    replace h2 := Lib.hid h2
    replace h3 := Lib.hid h3
    cases c1
    · go_enter Tryz.func134, Tryz.ntmps134
      go_wp2_with (first | (go_at_call 133; refine (rbounded_any (by first | with_reducible exact h1.out | with_reducible exact h2.out | with_reducible exact h3.out) _).mono ?_; rintro e w' ⟨rfl, hb_⟩; obtain ⟨p, rfl⟩ := grow_of_below hb_; clear hb_))
      go_ret
      exact ⟨rfl, (by repeat' (first | with_reducible exact Below.refl _ _ | with_reducible exact Nat.le_refl _ | with_reducible assumption | with_reducible refine Go.below_growBy' ?_ ?_ _ | with_reducible refine Below.alloc ?_ ?_ _ | with_reducible refine Below.setCell ?_ ?_ _ | with_reducible refine Below.drew ?_ | with_reducible refine Go.le_alloc ?_ | with_reducible refine Go.le_growBy ?_ | with_reducible refine Go.le_setCell ?_ | with_reducible refine Go.le_drew ?_ | omega | (dsimp only; omega)))⟩
    · cases c2
      · go_enter Tryz.func134, Tryz.ntmps134
        go_wp2_with (first | (go_at_call 133; refine (rbounded_any (by first | with_reducible exact h1.out | with_reducible exact h2.out | with_reducible exact h3.out) _).mono ?_; rintro e w' ⟨rfl, hb_⟩; obtain ⟨p, rfl⟩ := grow_of_below hb_; clear hb_))
        go_ret
        exact ⟨rfl, (by repeat' (first | with_reducible exact Below.refl _ _ | with_reducible exact Nat.le_refl _ | with_reducible assumption | with_reducible refine Go.below_growBy' ?_ ?_ _ | with_reducible refine Below.alloc ?_ ?_ _ | with_reducible refine Below.setCell ?_ ?_ _ | with_reducible refine Below.drew ?_ | with_reducible refine Go.le_alloc ?_ | with_reducible refine Go.le_growBy ?_ | with_reducible refine Go.le_setCell ?_ | with_reducible refine Go.le_drew ?_ | omega | (dsimp only; omega)))⟩
      · cases c3
        · go_enter Tryz.func134, Tryz.ntmps134
          go_wp2_with (first | (go_at_call 133; refine (rbounded_any (by first | with_reducible exact h1.out | with_reducible exact h2.out | with_reducible exact h3.out) _).mono ?_; rintro e w' ⟨rfl, hb_⟩; obtain ⟨p, rfl⟩ := grow_of_below hb_; clear hb_))
          go_ret
          exact ⟨rfl, (by repeat' (first | with_reducible exact Below.refl _ _ | with_reducible exact Nat.le_refl _ | with_reducible assumption | with_reducible refine Go.below_growBy' ?_ ?_ _ | with_reducible refine Below.alloc ?_ ?_ _ | with_reducible refine Below.setCell ?_ ?_ _ | with_reducible refine Below.drew ?_ | with_reducible refine Go.le_alloc ?_ | with_reducible refine Go.le_growBy ?_ | with_reducible refine Go.le_setCell ?_ | with_reducible refine Go.le_drew ?_ | omega | (dsimp only; omega)))⟩
        · exact absurd ⟨rfl, rfl, rfl⟩ hall

def onF (a b p : Spot) : Bool := bndP a && bndP b && bndP p && inR (min a.1 b.1) p.1 (max a.1 b.1) && inR (min a.2 b.2) p.2 (max a.2 b.2) && decide (sideF a b p = 0)

set_option maxHeartbeats 4000000 in
theorem ron4_any (ax ay bx by_ px py : Int) (r : Bool) (hr : onF (ax, ay) (bx, by_) (px, py) = r) (w : World) :
    Calls Tryz.prog 135 #[.agg #[.int .i64 ax, .int .i64 ay], .agg #[.int .i64 bx, .int .i64 by_], .agg #[.int .i64 px, .int .i64 py]] w fun e w' => e = .returned (.bool r) ∧ Below w.heap.size w w' := by
  subst hr
  obtain ⟨c1, h1⟩ : ∃ b, bndP (ax, ay) = b := ⟨_, rfl⟩
  obtain ⟨c2, h2⟩ : ∃ b, bndP (bx, by_) = b := ⟨_, rfl⟩
  obtain ⟨c3, h3⟩ : ∃ b, bndP (px, py) = b := ⟨_, rfl⟩
  obtain ⟨c4, h4⟩ : ∃ b, inR (min ax bx) px (max ax bx) = b := ⟨_, rfl⟩
  obtain ⟨c5, h5⟩ : ∃ b, inR (min ay by_) py (max ay by_) = b := ⟨_, rfl⟩
  obtain ⟨s, h6⟩ : ∃ s, sideF (ax, ay) (bx, by_) (px, py) = s := ⟨_, rfl⟩
  unfold onF
  simp only [h1, h2, h3, h4, h5, h6]
  replace h1 := Lib.hid h1
  replace h2 := Lib.hid h2
  replace h3 := Lib.hid h3
  replace h4 := Lib.hid h4
  replace h5 := Lib.hid h5
  replace h6 := Lib.hid h6
  cases c1
  · go_enter Tryz.func135, Tryz.ntmps135
    go_wp2_with (first | (go_at_call 133; refine (rbounded_any (by first | with_reducible exact h1.out | with_reducible exact h2.out | with_reducible exact h3.out) _).mono ?_; rintro e w' ⟨rfl, hb_⟩; obtain ⟨p, rfl⟩ := grow_of_below hb_; clear hb_) | (go_at_call 93; refine (rbetween_eq (by first | with_reducible exact h4.out | with_reducible exact h5.out) _).mono ?_; rintro e w' ⟨rfl, rfl⟩) | (go_at_call 134; refine (rside_any _ _ _ _ _ _ _ h6.out _).mono ?_; rintro e w' ⟨rfl, hb_⟩; obtain ⟨p, rfl⟩ := grow_of_below hb_; clear hb_))
    go_ret
    exact ⟨rfl, (by repeat' (first | with_reducible exact Below.refl _ _ | with_reducible exact Nat.le_refl _ | with_reducible assumption | with_reducible refine Go.below_growBy' ?_ ?_ _ | with_reducible refine Below.alloc ?_ ?_ _ | with_reducible refine Below.setCell ?_ ?_ _ | with_reducible refine Below.drew ?_ | with_reducible refine Go.le_alloc ?_ | with_reducible refine Go.le_growBy ?_ | with_reducible refine Go.le_setCell ?_ | with_reducible refine Go.le_drew ?_ | omega | (dsimp only; omega)))⟩
  · cases c2
    · go_enter Tryz.func135, Tryz.ntmps135
      go_wp2_with (first | (go_at_call 133; refine (rbounded_any (by first | with_reducible exact h1.out | with_reducible exact h2.out | with_reducible exact h3.out) _).mono ?_; rintro e w' ⟨rfl, hb_⟩; obtain ⟨p, rfl⟩ := grow_of_below hb_; clear hb_) | (go_at_call 93; refine (rbetween_eq (by first | with_reducible exact h4.out | with_reducible exact h5.out) _).mono ?_; rintro e w' ⟨rfl, rfl⟩) | (go_at_call 134; refine (rside_any _ _ _ _ _ _ _ h6.out _).mono ?_; rintro e w' ⟨rfl, hb_⟩; obtain ⟨p, rfl⟩ := grow_of_below hb_; clear hb_))
      go_ret
      exact ⟨rfl, (by repeat' (first | with_reducible exact Below.refl _ _ | with_reducible exact Nat.le_refl _ | with_reducible assumption | with_reducible refine Go.below_growBy' ?_ ?_ _ | with_reducible refine Below.alloc ?_ ?_ _ | with_reducible refine Below.setCell ?_ ?_ _ | with_reducible refine Below.drew ?_ | with_reducible refine Go.le_alloc ?_ | with_reducible refine Go.le_growBy ?_ | with_reducible refine Go.le_setCell ?_ | with_reducible refine Go.le_drew ?_ | omega | (dsimp only; omega)))⟩
    · cases c3
      · go_enter Tryz.func135, Tryz.ntmps135
        go_wp2_with (first | (go_at_call 133; refine (rbounded_any (by first | with_reducible exact h1.out | with_reducible exact h2.out | with_reducible exact h3.out) _).mono ?_; rintro e w' ⟨rfl, hb_⟩; obtain ⟨p, rfl⟩ := grow_of_below hb_; clear hb_) | (go_at_call 93; refine (rbetween_eq (by first | with_reducible exact h4.out | with_reducible exact h5.out) _).mono ?_; rintro e w' ⟨rfl, rfl⟩) | (go_at_call 134; refine (rside_any _ _ _ _ _ _ _ h6.out _).mono ?_; rintro e w' ⟨rfl, hb_⟩; obtain ⟨p, rfl⟩ := grow_of_below hb_; clear hb_))
        go_ret
        exact ⟨rfl, (by repeat' (first | with_reducible exact Below.refl _ _ | with_reducible exact Nat.le_refl _ | with_reducible assumption | with_reducible refine Go.below_growBy' ?_ ?_ _ | with_reducible refine Below.alloc ?_ ?_ _ | with_reducible refine Below.setCell ?_ ?_ _ | with_reducible refine Below.drew ?_ | with_reducible refine Go.le_alloc ?_ | with_reducible refine Go.le_growBy ?_ | with_reducible refine Go.le_setCell ?_ | with_reducible refine Go.le_drew ?_ | omega | (dsimp only; omega)))⟩
      · cases c4
        · go_enter Tryz.func135, Tryz.ntmps135
          go_wp2_with (first | (go_at_call 133; refine (rbounded_any (by first | with_reducible exact h1.out | with_reducible exact h2.out | with_reducible exact h3.out) _).mono ?_; rintro e w' ⟨rfl, hb_⟩; obtain ⟨p, rfl⟩ := grow_of_below hb_; clear hb_) | (go_at_call 93; refine (rbetween_eq (by first | with_reducible exact h4.out | with_reducible exact h5.out) _).mono ?_; rintro e w' ⟨rfl, rfl⟩) | (go_at_call 134; refine (rside_any _ _ _ _ _ _ _ h6.out _).mono ?_; rintro e w' ⟨rfl, hb_⟩; obtain ⟨p, rfl⟩ := grow_of_below hb_; clear hb_))
          go_ret
          exact ⟨rfl, (by repeat' (first | with_reducible exact Below.refl _ _ | with_reducible exact Nat.le_refl _ | with_reducible assumption | with_reducible refine Go.below_growBy' ?_ ?_ _ | with_reducible refine Below.alloc ?_ ?_ _ | with_reducible refine Below.setCell ?_ ?_ _ | with_reducible refine Below.drew ?_ | with_reducible refine Go.le_alloc ?_ | with_reducible refine Go.le_growBy ?_ | with_reducible refine Go.le_setCell ?_ | with_reducible refine Go.le_drew ?_ | omega | (dsimp only; omega)))⟩
        · cases c5
          · go_enter Tryz.func135, Tryz.ntmps135
            go_wp2_with (first | (go_at_call 133; refine (rbounded_any (by first | with_reducible exact h1.out | with_reducible exact h2.out | with_reducible exact h3.out) _).mono ?_; rintro e w' ⟨rfl, hb_⟩; obtain ⟨p, rfl⟩ := grow_of_below hb_; clear hb_) | (go_at_call 93; refine (rbetween_eq (by first | with_reducible exact h4.out | with_reducible exact h5.out) _).mono ?_; rintro e w' ⟨rfl, rfl⟩) | (go_at_call 134; refine (rside_any _ _ _ _ _ _ _ h6.out _).mono ?_; rintro e w' ⟨rfl, hb_⟩; obtain ⟨p, rfl⟩ := grow_of_below hb_; clear hb_))
            go_ret
            exact ⟨rfl, (by repeat' (first | with_reducible exact Below.refl _ _ | with_reducible exact Nat.le_refl _ | with_reducible assumption | with_reducible refine Go.below_growBy' ?_ ?_ _ | with_reducible refine Below.alloc ?_ ?_ _ | with_reducible refine Below.setCell ?_ ?_ _ | with_reducible refine Below.drew ?_ | with_reducible refine Go.le_alloc ?_ | with_reducible refine Go.le_growBy ?_ | with_reducible refine Go.le_setCell ?_ | with_reducible refine Go.le_drew ?_ | omega | (dsimp only; omega)))⟩
          · by_cases hs : s = 0
            · subst hs
              go_enter Tryz.func135, Tryz.ntmps135
              go_wp2_with (first | (go_at_call 133; refine (rbounded_any (by first | with_reducible exact h1.out | with_reducible exact h2.out | with_reducible exact h3.out) _).mono ?_; rintro e w' ⟨rfl, hb_⟩; obtain ⟨p, rfl⟩ := grow_of_below hb_; clear hb_) | (go_at_call 93; refine (rbetween_eq (by first | with_reducible exact h4.out | with_reducible exact h5.out) _).mono ?_; rintro e w' ⟨rfl, rfl⟩) | (go_at_call 134; refine (rside_any _ _ _ _ _ _ _ h6.out _).mono ?_; rintro e w' ⟨rfl, hb_⟩; obtain ⟨p, rfl⟩ := grow_of_below hb_; clear hb_))
              go_ret
              exact ⟨rfl, (by repeat' (first | with_reducible exact Below.refl _ _ | with_reducible exact Nat.le_refl _ | with_reducible assumption | with_reducible refine Go.below_growBy' ?_ ?_ _ | with_reducible refine Below.alloc ?_ ?_ _ | with_reducible refine Below.setCell ?_ ?_ _ | with_reducible refine Below.drew ?_ | with_reducible refine Go.le_alloc ?_ | with_reducible refine Go.le_growBy ?_ | with_reducible refine Go.le_setCell ?_ | with_reducible refine Go.le_drew ?_ | omega | (dsimp only; omega)))⟩
            · have hsb : (s == 0) = false := by simpa using hs
              simp only [hs, decide_false]
              go_enter Tryz.func135, Tryz.ntmps135
              go_wp2_with (first | (go_at_call 133; refine (rbounded_any (by first | with_reducible exact h1.out | with_reducible exact h2.out | with_reducible exact h3.out) _).mono ?_; rintro e w' ⟨rfl, hb_⟩; obtain ⟨p, rfl⟩ := grow_of_below hb_; clear hb_) | (go_at_call 93; refine (rbetween_eq (by first | with_reducible exact h4.out | with_reducible exact h5.out) _).mono ?_; rintro e w' ⟨rfl, rfl⟩) | (go_at_call 134; refine (rside_any _ _ _ _ _ _ _ h6.out _).mono ?_; rintro e w' ⟨rfl, hb_⟩; obtain ⟨p, rfl⟩ := grow_of_below hb_; clear hb_))
              go_ret
              exact ⟨rfl, (by repeat' (first | with_reducible exact Below.refl _ _ | with_reducible exact Nat.le_refl _ | with_reducible assumption | with_reducible refine Go.below_growBy' ?_ ?_ _ | with_reducible refine Below.alloc ?_ ?_ _ | with_reducible refine Below.setCell ?_ ?_ _ | with_reducible refine Below.drew ?_ | with_reducible refine Go.le_alloc ?_ | with_reducible refine Go.le_growBy ?_ | with_reducible refine Go.le_setCell ?_ | with_reducible refine Go.le_drew ?_ | omega | (dsimp only; omega)))⟩
def lessP (a b : Spot) : Bool := decide (a.1 < b.1) || (decide (a.1 = b.1) && decide (a.2 < b.2))
theorem rless_any (ax ay bx by_ : Int) (r : Bool) (hr : lessP (ax, ay) (bx, by_) = r) (w : World) :
    Calls Tryz.prog 137 #[.agg #[.int .i64 ax, .int .i64 ay], .agg #[.int .i64 bx, .int .i64 by_]] w fun e w' => e = .returned (.bool r) ∧ Below w.heap.size w w' := by
  subst hr
  unfold lessP
  by_cases h1 : ax < bx
  · simp only [h1, decide_true, Bool.true_or]
    go_enter Tryz.func137, Tryz.ntmps137
    go_wp2_with fail
    go_ret
    exact ⟨rfl, (by repeat' (first | with_reducible exact Below.refl _ _ | with_reducible exact Nat.le_refl _ | with_reducible assumption | with_reducible refine Go.below_growBy' ?_ ?_ _ | with_reducible refine Below.alloc ?_ ?_ _ | with_reducible refine Below.setCell ?_ ?_ _ | with_reducible refine Below.drew ?_ | with_reducible refine Go.le_alloc ?_ | with_reducible refine Go.le_growBy ?_ | with_reducible refine Go.le_setCell ?_ | with_reducible refine Go.le_drew ?_ | omega | (dsimp only; omega)))⟩
  · by_cases h2 : ax = bx
    · subst h2
      by_cases h3 : ay < by_
      all_goals
        simp only [h1, h3, decide_true, decide_false, Bool.true_and, Bool.false_or]
        go_enter Tryz.func137, Tryz.ntmps137
        go_wp2_with fail
        go_ret
        exact ⟨rfl, (by repeat' (first | with_reducible exact Below.refl _ _ | with_reducible exact Nat.le_refl _ | with_reducible assumption | with_reducible refine Go.below_growBy' ?_ ?_ _ | with_reducible refine Below.alloc ?_ ?_ _ | with_reducible refine Below.setCell ?_ ?_ _ | with_reducible refine Below.drew ?_ | with_reducible refine Go.le_alloc ?_ | with_reducible refine Go.le_growBy ?_ | with_reducible refine Go.le_setCell ?_ | with_reducible refine Go.le_drew ?_ | omega | (dsimp only; omega)))⟩
    · have h2b : (ax == bx) = false := by simpa using h2
      simp only [h1, h2, decide_false, Bool.false_and, Bool.false_or]
      go_enter Tryz.func137, Tryz.ntmps137
      go_wp2_with fail
      go_ret
      exact ⟨rfl, (by repeat' (first | with_reducible exact Below.refl _ _ | with_reducible exact Nat.le_refl _ | with_reducible assumption | with_reducible refine Go.below_growBy' ?_ ?_ _ | with_reducible refine Below.alloc ?_ ?_ _ | with_reducible refine Below.setCell ?_ ?_ _ | with_reducible refine Below.drew ?_ | with_reducible refine Go.le_alloc ?_ | with_reducible refine Go.le_growBy ?_ | with_reducible refine Go.le_setCell ?_ | with_reducible refine Go.le_drew ?_ | omega | (dsimp only; omega)))⟩
def ordA (a b : Spot) : Spot := if lessP b a then b else a
def ordB (a b : Spot) : Spot := if lessP b a then a else b
set_option maxHeartbeats 1000000 in
theorem rordered_any (ax ay bx by_ : Int) (cx cy dx dy : Int) (hc : ordA (ax, ay) (bx, by_) = (cx, cy)) (hd : ordB (ax, ay) (bx, by_) = (dx, dy)) (w : World) :
    Calls Tryz.prog 136 #[.agg #[.int .i64 ax, .int .i64 ay], .agg #[.int .i64 bx, .int .i64 by_]] w fun e w' => e = .returned (.tuple #[.agg #[.int .i64 cx, .int .i64 cy], .agg #[.int .i64 dx, .int .i64 dy]]) ∧ Below w.heap.size w w' := by
  obtain ⟨b, hb⟩ : ∃ b, lessP (bx, by_) (ax, ay) = b := ⟨_, rfl⟩
  unfold ordA at hc
  unfold ordB at hd
  rw [hb] at hc hd
  replace hb := Lib.hid hb
  cases b
  all_goals
    simp only [Bool.false_eq_true, if_false, if_true, Prod.mk.injEq] at hc hd
    obtain ⟨rfl, rfl⟩ := hc
    obtain ⟨rfl, rfl⟩ := hd
    go_enter Tryz.func136, Tryz.ntmps136
    go_wp2_with (go_at_call 137; refine (rless_any _ _ _ _ _ hb.out _).mono ?_; rintro e w' ⟨rfl, hb_⟩; obtain ⟨p, rfl⟩ := grow_of_below hb_; clear hb_)
    go_region_law (fail)
    all_goals go_wp2_with fail
    all_goals first
      | exact bodyPost_ret (v := .tuple #[.agg #[.int .i64 bx, .int .i64 by_], .agg #[.int .i64 ax, .int .i64 ay]]) (by simp [results, Tryz.results136, go_sem]) rfl ⟨rfl, (by repeat' (first | with_reducible exact Below.refl _ _ | with_reducible exact Nat.le_refl _ | with_reducible assumption | with_reducible refine Go.below_growBy' ?_ ?_ _ | with_reducible refine Below.alloc ?_ ?_ _ | with_reducible refine Below.setCell ?_ ?_ _ | with_reducible refine Below.drew ?_ | with_reducible refine Go.le_alloc ?_ | with_reducible refine Go.le_growBy ?_ | with_reducible refine Go.le_setCell ?_ | with_reducible refine Go.le_drew ?_ | omega | (dsimp only; omega)))⟩
      | exact bodyPost_ret (v := .tuple #[.agg #[.int .i64 ax, .int .i64 ay], .agg #[.int .i64 bx, .int .i64 by_]]) (by simp [results, Tryz.results136, go_sem]) rfl ⟨rfl, (by repeat' (first | with_reducible exact Below.refl _ _ | with_reducible exact Nat.le_refl _ | with_reducible assumption | with_reducible refine Go.below_growBy' ?_ ?_ _ | with_reducible refine Below.alloc ?_ ?_ _ | with_reducible refine Below.setCell ?_ ?_ _ | with_reducible refine Below.drew ?_ | with_reducible refine Go.le_alloc ?_ | with_reducible refine Go.le_growBy ?_ | with_reducible refine Go.le_setCell ?_ | with_reducible refine Go.le_drew ?_ | omega | (dsimp only; omega)))⟩
theorem mul_bd1 {a b : Int} (ha : -1 ≤ a ∧ a ≤ 1) (hb : -1 ≤ b ∧ b ≤ 1) : -1 ≤ a * b ∧ a * b ≤ 1 := by
  have h1 : a = -1 ∨ a = 0 ∨ a = 1 := by omega
  rcases h1 with rfl | rfl | rfl <;> omega



set_option maxRecDepth 100000 in
set_option maxHeartbeats 8000000 in
theorem rmeet_any (ax ay bx by_ cx cy dx dy : Int) (w : World) :
    Calls Tryz.prog 115 #[.agg #[.int .i64 ax, .int .i64 ay], .agg #[.int .i64 bx, .int .i64 by_], .agg #[.int .i64 cx, .int .i64 cy], .agg #[.int .i64 dx, .int .i64 dy]] w fun e w' => (∃ r, e = .returned (.int .i64 r) ∧ 0 ≤ r ∧ r ≤ 2) ∧ Below w.heap.size w w' := by
  obtain ⟨b1, h1⟩ : ∃ b, bndP (ax, ay) = b := ⟨_, rfl⟩
  obtain ⟨b2, h2⟩ : ∃ b, bndP (bx, by_) = b := ⟨_, rfl⟩
  obtain ⟨b3, h3⟩ : ∃ b, bndP (cx, cy) = b := ⟨_, rfl⟩
  obtain ⟨b4, h4⟩ : ∃ b, bndP (dx, dy) = b := ⟨_, rfl⟩
  replace h1 := Lib.hid h1
  replace h2 := Lib.hid h2
  replace h3 := Lib.hid h3
  replace h4 := Lib.hid h4
  cases b1 with
  | false => go_enter Tryz.func115, Tryz.ntmps115
             go_wp2_with (first | (go_at_call 133; refine (rbounded_any (by first | with_reducible exact h1.out | with_reducible exact h2.out | with_reducible exact h3.out | with_reducible exact h4.out) _).mono ?_; rintro e w' ⟨rfl, hb_⟩; obtain ⟨p, rfl⟩ := grow_of_below hb_; clear hb_))
             go_ret
             exact ⟨⟨0, rfl, by omega, by omega⟩, (by repeat' (first | with_reducible exact Below.refl _ _ | with_reducible exact Nat.le_refl _ | with_reducible assumption | with_reducible refine Go.below_growBy' ?_ ?_ _ | with_reducible refine Below.alloc ?_ ?_ _ | with_reducible refine Below.setCell ?_ ?_ _ | with_reducible refine Below.drew ?_ | with_reducible refine Go.le_alloc ?_ | with_reducible refine Go.le_growBy ?_ | with_reducible refine Go.le_setCell ?_ | with_reducible refine Go.le_drew ?_ | omega | (dsimp only; omega)))⟩
  | true =>
  cases b2 with
  | false => go_enter Tryz.func115, Tryz.ntmps115
             go_wp2_with (first | (go_at_call 133; refine (rbounded_any (by first | with_reducible exact h1.out | with_reducible exact h2.out | with_reducible exact h3.out | with_reducible exact h4.out) _).mono ?_; rintro e w' ⟨rfl, hb_⟩; obtain ⟨p, rfl⟩ := grow_of_below hb_; clear hb_))
             go_ret
             exact ⟨⟨0, rfl, by omega, by omega⟩, (by repeat' (first | with_reducible exact Below.refl _ _ | with_reducible exact Nat.le_refl _ | with_reducible assumption | with_reducible refine Go.below_growBy' ?_ ?_ _ | with_reducible refine Below.alloc ?_ ?_ _ | with_reducible refine Below.setCell ?_ ?_ _ | with_reducible refine Below.drew ?_ | with_reducible refine Go.le_alloc ?_ | with_reducible refine Go.le_growBy ?_ | with_reducible refine Go.le_setCell ?_ | with_reducible refine Go.le_drew ?_ | omega | (dsimp only; omega)))⟩
  | true =>
  cases b3 with
  | false => go_enter Tryz.func115, Tryz.ntmps115
             go_wp2_with (first | (go_at_call 133; refine (rbounded_any (by first | with_reducible exact h1.out | with_reducible exact h2.out | with_reducible exact h3.out | with_reducible exact h4.out) _).mono ?_; rintro e w' ⟨rfl, hb_⟩; obtain ⟨p, rfl⟩ := grow_of_below hb_; clear hb_))
             go_ret
             exact ⟨⟨0, rfl, by omega, by omega⟩, (by repeat' (first | with_reducible exact Below.refl _ _ | with_reducible exact Nat.le_refl _ | with_reducible assumption | with_reducible refine Go.below_growBy' ?_ ?_ _ | with_reducible refine Below.alloc ?_ ?_ _ | with_reducible refine Below.setCell ?_ ?_ _ | with_reducible refine Below.drew ?_ | with_reducible refine Go.le_alloc ?_ | with_reducible refine Go.le_growBy ?_ | with_reducible refine Go.le_setCell ?_ | with_reducible refine Go.le_drew ?_ | omega | (dsimp only; omega)))⟩
  | true =>
  cases b4 with
  | false => go_enter Tryz.func115, Tryz.ntmps115
             go_wp2_with (first | (go_at_call 133; refine (rbounded_any (by first | with_reducible exact h1.out | with_reducible exact h2.out | with_reducible exact h3.out | with_reducible exact h4.out) _).mono ?_; rintro e w' ⟨rfl, hb_⟩; obtain ⟨p, rfl⟩ := grow_of_below hb_; clear hb_))
             go_ret
             exact ⟨⟨0, rfl, by omega, by omega⟩, (by repeat' (first | with_reducible exact Below.refl _ _ | with_reducible exact Nat.le_refl _ | with_reducible assumption | with_reducible refine Go.below_growBy' ?_ ?_ _ | with_reducible refine Below.alloc ?_ ?_ _ | with_reducible refine Below.setCell ?_ ?_ _ | with_reducible refine Below.drew ?_ | with_reducible refine Go.le_alloc ?_ | with_reducible refine Go.le_growBy ?_ | with_reducible refine Go.le_setCell ?_ | with_reducible refine Go.le_drew ?_ | omega | (dsimp only; omega)))⟩
  | true =>
  go_enter Tryz.func115, Tryz.ntmps115
  go_upto_region 3 with (first | (go_at_call 133; refine (rbounded_any (by first | with_reducible exact h1.out | with_reducible exact h2.out | with_reducible exact h3.out | with_reducible exact h4.out) _).mono ?_; rintro e w' ⟨rfl, hb_⟩; obtain ⟨p, rfl⟩ := grow_of_below hb_; clear hb_) | fail)
  refine wp_world (fun W hW => ?_)
  have k4 : Blk W w.heap.size #[.int .i64 ax, .int .i64 ay] 25 := by
    rw [hW]
    exact ((((Blk.new w #[.int .i64 ax, .int .i64 ay] 25).alloc (.cells #[.int .i64 bx, .int .i64 by_] 25)).alloc (.cells #[.int .i64 cx, .int .i64 cy] 25)).alloc (.cells #[.int .i64 dx, .int .i64 dy] 25)).grow _
  have k5 : Blk W (w.heap.size + 1) #[.int .i64 bx, .int .i64 by_] 25 := by
    rw [hW]
    have h := (((Blk.new (w.alloc (.cells #[.int .i64 ax, .int .i64 ay] 25)) #[.int .i64 bx, .int .i64 by_] 25).alloc (.cells #[.int .i64 cx, .int .i64 cy] 25)).alloc (.cells #[.int .i64 dx, .int .i64 dy] 25))
    simp only [World.size_alloc] at h
    exact h.grow _
  have k6 : Blk W (w.heap.size + 1 + 1) #[.int .i64 cx, .int .i64 cy] 25 := by
    rw [hW]
    have h := ((Blk.new ((w.alloc (.cells #[.int .i64 ax, .int .i64 ay] 25)).alloc (.cells #[.int .i64 bx, .int .i64 by_] 25)) #[.int .i64 cx, .int .i64 cy] 25).alloc (.cells #[.int .i64 dx, .int .i64 dy] 25))
    simp only [World.size_alloc] at h
    exact h.grow _
  have k7 : Blk W (w.heap.size + 1 + 1 + 1) #[.int .i64 dx, .int .i64 dy] 25 := by
    rw [hW]
    have h := (Blk.new (((w.alloc (.cells #[.int .i64 ax, .int .i64 ay] 25)).alloc (.cells #[.int .i64 bx, .int .i64 by_] 25)).alloc (.cells #[.int .i64 cx, .int .i64 cy] 25)) #[.int .i64 dx, .int .i64 dy] 25)
    simp only [World.size_alloc] at h
    exact h.grow _
  have hB : Below w.heap.size w W := by
    rw [hW]
    exact (by repeat' (first | with_reducible exact Below.refl _ _ | with_reducible exact Nat.le_refl _ | with_reducible assumption | with_reducible refine Go.below_growBy' ?_ ?_ _ | with_reducible refine Below.alloc ?_ ?_ _ | with_reducible refine Below.setCell ?_ ?_ _ | with_reducible refine Below.drew ?_ | with_reducible refine Go.le_alloc ?_ | with_reducible refine Go.le_growBy ?_ | with_reducible refine Go.le_setCell ?_ | with_reducible refine Go.le_drew ?_ | omega | (dsimp only; omega)))
  clear hW h1 h2 h3 h4
  have hle : w.heap.size ≤ w.heap.size := Nat.le_refl _
  obtain ⟨B4, hB4⟩ : ∃ b, w.heap.size = b := ⟨_, rfl⟩
  rw [hB4] at k4 k5 k6 k7 ⊢
  replace hB4 := Lib.hid hB4
  have c40 : W.cell? ⟨B4, 0, none⟩ = some (.int .i64 ax) := k4.cell 0
  have c41 : W.cell? ⟨B4, 1, none⟩ = some (.int .i64 ay) := k4.cell 1
  have c50 : W.cell? ⟨B4 + 1, 0, none⟩ = some (.int .i64 bx) := k5.cell 0
  have c51 : W.cell? ⟨B4 + 1, 1, none⟩ = some (.int .i64 by_) := k5.cell 1
  have c60 : W.cell? ⟨B4 + 1 + 1, 0, none⟩ = some (.int .i64 cx) := k6.cell 0
  have c61 : W.cell? ⟨B4 + 1 + 1, 1, none⟩ = some (.int .i64 cy) := k6.cell 1
  have c70 : W.cell? ⟨B4 + 1 + 1 + 1, 0, none⟩ = some (.int .i64 dx) := k7.cell 0
  have c71 : W.cell? ⟨B4 + 1 + 1 + 1, 1, none⟩ = some (.int .i64 dy) := k7.cell 1
  obtain ⟨s1, e1⟩ : ∃ s, sideF (ax, ay) (bx, by_) (cx, cy) = s := ⟨_, rfl⟩
  obtain ⟨s2, e2⟩ : ∃ s, sideF (ax, ay) (bx, by_) (dx, dy) = s := ⟨_, rfl⟩
  obtain ⟨s3, e3⟩ : ∃ s, sideF (cx, cy) (dx, dy) (ax, ay) = s := ⟨_, rfl⟩
  obtain ⟨s4, e4⟩ : ∃ s, sideF (cx, cy) (dx, dy) (bx, by_) = s := ⟨_, rfl⟩
  have q1 := sideF_bd (ax, ay) (bx, by_) (cx, cy)
  have q2 := sideF_bd (ax, ay) (bx, by_) (dx, dy)
  have q3 := sideF_bd (cx, cy) (dx, dy) (ax, ay)
  have q4 := sideF_bd (cx, cy) (dx, dy) (bx, by_)
  rw [e1] at q1
  rw [e2] at q2
  rw [e3] at q3
  rw [e4] at q4
  replace e1 := Lib.hid e1
  replace e2 := Lib.hid e2
  replace e3 := Lib.hid e3
  replace e4 := Lib.hid e4
  go_cut [9] (fun v wx => ∃ f : Int, v = .bool (decide (f = 0)) ∧ Below W.heap.size W wx)
  case first =>
    by_cases z1 : s1 = 0
    · subst z1
      by_cases z2 : s2 = 0
      · subst z2
        by_cases z3 : s3 = 0
        · subst z3
          by_cases z4 : s4 = 0
          · subst z4
            go_wp2_with (first | (go_at_call 134; refine (rside_any _ _ _ _ _ _ _ (by first | with_reducible exact e1.out | with_reducible exact e2.out | with_reducible exact e3.out | with_reducible exact e4.out) _).mono ?_; rintro e w' ⟨rfl, hb_⟩; obtain ⟨p, rfl⟩ := grow_of_below hb_; clear hb_) | (go_at_call 135; refine (ron4_any _ _ _ _ _ _ _ (by first | with_reducible exact o1.out | with_reducible exact o2.out) _).mono ?_; rintro e w' ⟨rfl, hb_⟩; obtain ⟨p, rfl⟩ := grow_of_below hb_; clear hb_) | fail)
            go_meet
            exact ⟨0, rfl, (by repeat' (first | with_reducible exact Below.refl _ _ | with_reducible exact Nat.le_refl _ | with_reducible assumption | with_reducible refine Go.below_growBy' ?_ ?_ _ | with_reducible refine Below.alloc ?_ ?_ _ | with_reducible refine Below.setCell ?_ ?_ _ | with_reducible refine Below.drew ?_ | with_reducible refine Go.le_alloc ?_ | with_reducible refine Go.le_growBy ?_ | with_reducible refine Go.le_setCell ?_ | with_reducible refine Go.le_drew ?_ | omega | (dsimp only; omega)))⟩
          · have z4b : (s4 == 0) = false := by simpa using z4
            go_wp2_with (first | (go_at_call 134; refine (rside_any _ _ _ _ _ _ _ (by first | with_reducible exact e1.out | with_reducible exact e2.out | with_reducible exact e3.out | with_reducible exact e4.out) _).mono ?_; rintro e w' ⟨rfl, hb_⟩; obtain ⟨p, rfl⟩ := grow_of_below hb_; clear hb_) | (go_at_call 135; refine (ron4_any _ _ _ _ _ _ _ (by first | with_reducible exact o1.out | with_reducible exact o2.out) _).mono ?_; rintro e w' ⟨rfl, hb_⟩; obtain ⟨p, rfl⟩ := grow_of_below hb_; clear hb_) | fail)
            go_meet
            exact ⟨1, rfl, (by repeat' (first | with_reducible exact Below.refl _ _ | with_reducible exact Nat.le_refl _ | with_reducible assumption | with_reducible refine Go.below_growBy' ?_ ?_ _ | with_reducible refine Below.alloc ?_ ?_ _ | with_reducible refine Below.setCell ?_ ?_ _ | with_reducible refine Below.drew ?_ | with_reducible refine Go.le_alloc ?_ | with_reducible refine Go.le_growBy ?_ | with_reducible refine Go.le_setCell ?_ | with_reducible refine Go.le_drew ?_ | omega | (dsimp only; omega)))⟩
        · have z3b : (s3 == 0) = false := by simpa using z3
          go_wp2_with (first | (go_at_call 134; refine (rside_any _ _ _ _ _ _ _ (by first | with_reducible exact e1.out | with_reducible exact e2.out | with_reducible exact e3.out | with_reducible exact e4.out) _).mono ?_; rintro e w' ⟨rfl, hb_⟩; obtain ⟨p, rfl⟩ := grow_of_below hb_; clear hb_) | (go_at_call 135; refine (ron4_any _ _ _ _ _ _ _ (by first | with_reducible exact o1.out | with_reducible exact o2.out) _).mono ?_; rintro e w' ⟨rfl, hb_⟩; obtain ⟨p, rfl⟩ := grow_of_below hb_; clear hb_) | fail)
          go_meet
          exact ⟨1, rfl, (by repeat' (first | with_reducible exact Below.refl _ _ | with_reducible exact Nat.le_refl _ | with_reducible assumption | with_reducible refine Go.below_growBy' ?_ ?_ _ | with_reducible refine Below.alloc ?_ ?_ _ | with_reducible refine Below.setCell ?_ ?_ _ | with_reducible refine Below.drew ?_ | with_reducible refine Go.le_alloc ?_ | with_reducible refine Go.le_growBy ?_ | with_reducible refine Go.le_setCell ?_ | with_reducible refine Go.le_drew ?_ | omega | (dsimp only; omega)))⟩
      · have z2b : (s2 == 0) = false := by simpa using z2
        go_wp2_with (first | (go_at_call 134; refine (rside_any _ _ _ _ _ _ _ (by first | with_reducible exact e1.out | with_reducible exact e2.out | with_reducible exact e3.out | with_reducible exact e4.out) _).mono ?_; rintro e w' ⟨rfl, hb_⟩; obtain ⟨p, rfl⟩ := grow_of_below hb_; clear hb_) | (go_at_call 135; refine (ron4_any _ _ _ _ _ _ _ (by first | with_reducible exact o1.out | with_reducible exact o2.out) _).mono ?_; rintro e w' ⟨rfl, hb_⟩; obtain ⟨p, rfl⟩ := grow_of_below hb_; clear hb_) | fail)
        go_meet
        exact ⟨1, rfl, (by repeat' (first | with_reducible exact Below.refl _ _ | with_reducible exact Nat.le_refl _ | with_reducible assumption | with_reducible refine Go.below_growBy' ?_ ?_ _ | with_reducible refine Below.alloc ?_ ?_ _ | with_reducible refine Below.setCell ?_ ?_ _ | with_reducible refine Below.drew ?_ | with_reducible refine Go.le_alloc ?_ | with_reducible refine Go.le_growBy ?_ | with_reducible refine Go.le_setCell ?_ | with_reducible refine Go.le_drew ?_ | omega | (dsimp only; omega)))⟩
    · have z1b : (s1 == 0) = false := by simpa using z1
      go_wp2_with (first | (go_at_call 134; refine (rside_any _ _ _ _ _ _ _ (by first | with_reducible exact e1.out | with_reducible exact e2.out | with_reducible exact e3.out | with_reducible exact e4.out) _).mono ?_; rintro e w' ⟨rfl, hb_⟩; obtain ⟨p, rfl⟩ := grow_of_below hb_; clear hb_) | (go_at_call 135; refine (ron4_any _ _ _ _ _ _ _ (by first | with_reducible exact o1.out | with_reducible exact o2.out) _).mono ?_; rintro e w' ⟨rfl, hb_⟩; obtain ⟨p, rfl⟩ := grow_of_below hb_; clear hb_) | fail)
      go_meet
      exact ⟨1, rfl, (by repeat' (first | with_reducible exact Below.refl _ _ | with_reducible exact Nat.le_refl _ | with_reducible assumption | with_reducible refine Go.below_growBy' ?_ ?_ _ | with_reducible refine Below.alloc ?_ ?_ _ | with_reducible refine Below.setCell ?_ ?_ _ | with_reducible refine Below.drew ?_ | with_reducible refine Go.le_alloc ?_ | with_reducible refine Go.le_growBy ?_ | with_reducible refine Go.le_setCell ?_ | with_reducible refine Go.le_drew ?_ | omega | (dsimp only; omega)))⟩
  case rest =>
  obtain ⟨f, rfl, hBc⟩ := hcut
  replace hB := hB.trans (hBc.mono hB.size)
  replace k4 := k4.below hBc k4.lt
  replace k5 := k5.below hBc k5.lt
  replace k6 := k6.below hBc k6.lt
  replace k7 := k7.below hBc k7.lt
  clear c40 c41 c50 c51 c60 c61 c70 c71 hBc
  obtain ⟨W2, rfl⟩ : ∃ W, W = wc := ⟨_, rfl⟩
  have c40 : W2.cell? ⟨B4, 0, none⟩ = some (.int .i64 ax) := k4.cell 0
  have c41 : W2.cell? ⟨B4, 1, none⟩ = some (.int .i64 ay) := k4.cell 1
  have c50 : W2.cell? ⟨B4 + 1, 0, none⟩ = some (.int .i64 bx) := k5.cell 0
  have c51 : W2.cell? ⟨B4 + 1, 1, none⟩ = some (.int .i64 by_) := k5.cell 1
  have c60 : W2.cell? ⟨B4 + 1 + 1, 0, none⟩ = some (.int .i64 cx) := k6.cell 0
  have c61 : W2.cell? ⟨B4 + 1 + 1, 1, none⟩ = some (.int .i64 cy) := k6.cell 1
  have c70 : W2.cell? ⟨B4 + 1 + 1 + 1, 0, none⟩ = some (.int .i64 dx) := k7.cell 0
  have c71 : W2.cell? ⟨B4 + 1 + 1 + 1, 1, none⟩ = some (.int .i64 dy) := k7.cell 1
  by_cases hf : f = 0
  · subst hf
    simp only [decide_true]
    have f40 := k4.frozen 0
    have f41 := k4.frozen 1
    have f50 := k5.frozen 0
    have f51 := k5.frozen 1
    have f60 := k6.frozen 0
    have f61 := k6.frozen 1
    have f70 := k7.frozen 0
    have f71 := k7.frozen 1
    obtain ⟨⟨px, py⟩, ho1⟩ : ∃ q, ordA (ax, ay) (bx, by_) = q := ⟨_, rfl⟩
    obtain ⟨⟨qx, qy⟩, ho2⟩ : ∃ q, ordB (ax, ay) (bx, by_) = q := ⟨_, rfl⟩
    obtain ⟨⟨rx, ry⟩, ho3⟩ : ∃ q, ordA (cx, cy) (dx, dy) = q := ⟨_, rfl⟩
    obtain ⟨⟨sx, sy⟩, ho4⟩ : ∃ q, ordB (cx, cy) (dx, dy) = q := ⟨_, rfl⟩
    obtain ⟨l1, hl1⟩ : ∃ l, lessP (px, py) (rx, ry) = l := ⟨_, rfl⟩
    obtain ⟨l2, hl2⟩ : ∃ l, lessP (sx, sy) (qx, qy) = l := ⟨_, rfl⟩
    replace ho1 := Lib.hid ho1
    replace ho2 := Lib.hid ho2
    replace ho3 := Lib.hid ho3
    replace ho4 := Lib.hid ho4
    replace hl1 := Lib.hid hl1
    replace hl2 := Lib.hid hl2
    go_upto_region 12 with (first | (go_at_call 136; refine (rordered_any _ _ _ _ _ _ _ _ (by first | with_reducible exact ho1.out | with_reducible exact ho3.out) (by first | with_reducible exact ho2.out | with_reducible exact ho4.out) _).mono ?_; rintro e w' ⟨rfl, hb_⟩; obtain ⟨p, rfl⟩ := grow_of_below hb_; clear hb_) | fail)
    have hE := eqlPt
    have hG := guardPt
    have hB4s : B4 ≤ W2.heap.size := Nat.le_of_lt k4.lt
    cases l1 <;> cases l2
    all_goals
      go_wp2_with (first | (go_at_call 137; refine (rless_any _ _ _ _ _ (by first | with_reducible exact hl1.out | with_reducible exact hl2.out | exact rfl) _).mono ?_; rintro e w' ⟨rfl, hb_⟩; obtain ⟨p, rfl⟩ := grow_of_below hb_; clear hb_) | fail)
      all_goals
        go_ret
        exact ⟨⟨_, rfl, by omega, by omega⟩, (by rw [hB4.out] at *; exact (by repeat' (first | with_reducible exact Below.refl _ _ | with_reducible exact Nat.le_refl _ | with_reducible assumption | with_reducible refine Go.below_growBy' ?_ ?_ _ | with_reducible refine Below.alloc ?_ ?_ _ | with_reducible refine Below.setCell ?_ ?_ _ | with_reducible refine Below.drew ?_ | with_reducible refine Go.le_alloc ?_ | with_reducible refine Go.le_growBy ?_ | with_reducible refine Go.le_setCell ?_ | with_reducible refine Go.le_drew ?_ | omega | (dsimp only; omega))))⟩
  · simp only [hf, decide_false]
    go_upto_region 5 with fail
    have hp1 : -1 ≤ s1 * s2 ∧ s1 * s2 ≤ 1 := mul_bd1 q1 q2
    have hp2 : -1 ≤ s3 * s4 ∧ s3 * s4 ≤ 1 := mul_bd1 q3 q4
    obtain ⟨m1, hm1⟩ : ∃ m, s1 * s2 = m := ⟨_, rfl⟩
    obtain ⟨m2, hm2⟩ : ∃ m, s3 * s4 = m := ⟨_, rfl⟩
    rw [hm1] at hp1
    rw [hm2] at hp2
    obtain ⟨p10, p11⟩ := hp1
    obtain ⟨p20, p21⟩ := hp2
    have wm1 : IntKind.i64.wrap m1 = m1 := wrap_in7 (by omega) (by omega)
    have wm2 : IntKind.i64.wrap m2 = m2 := wrap_in7 (by omega) (by omega)
    clear q1 q2 q3 q4
    go_cut [79] (fun v wx => ∃ f : Int, v = .bool (decide (f = 0)) ∧ Below W2.heap.size W2 wx)
    case first =>
      by_cases z1 : 0 < m1
      · first | with_reducible refine wp_region_grow2 (by kernel_rfl) (by kernel_rfl) ?_ | with_reducible refine wp_region_grow (by kernel_rfl) (by kernel_rfl) ?_
        repeat (first | go_big_quiet_step (first | (go_at_call 134; exact Calls.grow_of (rside_any _ _ _ _ _ _ _ (by first | with_reducible exact e1.out | with_reducible exact e2.out | with_reducible exact e3.out | with_reducible exact e4.out) _)) | fail) | quiet_step (first | (go_at_call 134; exact Calls.grow_of (rside_any _ _ _ _ _ _ _ (by first | with_reducible exact e1.out | with_reducible exact e2.out | with_reducible exact e3.out | with_reducible exact e4.out) _)) | fail))
        refine wpQuiet_nil ?_
        intro _ hw_
        obtain ⟨p, hw_⟩ := hw_
        subst hw_
        go_wp2_with fail
        go_meet
        exact ⟨0, rfl, (by repeat' (first | with_reducible exact Below.refl _ _ | with_reducible exact Nat.le_refl _ | with_reducible assumption | with_reducible refine Go.below_growBy' ?_ ?_ _ | with_reducible refine Below.alloc ?_ ?_ _ | with_reducible refine Below.setCell ?_ ?_ _ | with_reducible refine Below.drew ?_ | with_reducible refine Go.le_alloc ?_ | with_reducible refine Go.le_growBy ?_ | with_reducible refine Go.le_setCell ?_ | with_reducible refine Go.le_drew ?_ | omega | (dsimp only; omega)))⟩
      · by_cases z2 : 0 < m2
        · first | with_reducible refine wp_region_grow2 (by kernel_rfl) (by kernel_rfl) ?_ | with_reducible refine wp_region_grow (by kernel_rfl) (by kernel_rfl) ?_
          repeat (first | go_big_quiet_step (first | (go_at_call 134; exact Calls.grow_of (rside_any _ _ _ _ _ _ _ (by first | with_reducible exact e1.out | with_reducible exact e2.out | with_reducible exact e3.out | with_reducible exact e4.out) _)) | fail) | quiet_step (first | (go_at_call 134; exact Calls.grow_of (rside_any _ _ _ _ _ _ _ (by first | with_reducible exact e1.out | with_reducible exact e2.out | with_reducible exact e3.out | with_reducible exact e4.out) _)) | fail))
          refine wpQuiet_nil ?_
          intro _ hw_
          obtain ⟨p, hw_⟩ := hw_
          subst hw_
          go_wp2_with fail
          go_meet
          exact ⟨0, rfl, (by repeat' (first | with_reducible exact Below.refl _ _ | with_reducible exact Nat.le_refl _ | with_reducible assumption | with_reducible refine Go.below_growBy' ?_ ?_ _ | with_reducible refine Below.alloc ?_ ?_ _ | with_reducible refine Below.setCell ?_ ?_ _ | with_reducible refine Below.drew ?_ | with_reducible refine Go.le_alloc ?_ | with_reducible refine Go.le_growBy ?_ | with_reducible refine Go.le_setCell ?_ | with_reducible refine Go.le_drew ?_ | omega | (dsimp only; omega)))⟩
        · first | with_reducible refine wp_region_grow2 (by kernel_rfl) (by kernel_rfl) ?_ | with_reducible refine wp_region_grow (by kernel_rfl) (by kernel_rfl) ?_
          repeat (first | go_big_quiet_step (first | (go_at_call 134; exact Calls.grow_of (rside_any _ _ _ _ _ _ _ (by first | with_reducible exact e1.out | with_reducible exact e2.out | with_reducible exact e3.out | with_reducible exact e4.out) _)) | fail) | quiet_step (first | (go_at_call 134; exact Calls.grow_of (rside_any _ _ _ _ _ _ _ (by first | with_reducible exact e1.out | with_reducible exact e2.out | with_reducible exact e3.out | with_reducible exact e4.out) _)) | fail))
          refine wpQuiet_nil ?_
          intro _ hw_
          obtain ⟨p, hw_⟩ := hw_
          subst hw_
          go_wp2_with fail
          go_meet
          exact ⟨1, rfl, (by repeat' (first | with_reducible exact Below.refl _ _ | with_reducible exact Nat.le_refl _ | with_reducible assumption | with_reducible refine Go.below_growBy' ?_ ?_ _ | with_reducible refine Below.alloc ?_ ?_ _ | with_reducible refine Below.setCell ?_ ?_ _ | with_reducible refine Below.drew ?_ | with_reducible refine Go.le_alloc ?_ | with_reducible refine Go.le_growBy ?_ | with_reducible refine Go.le_setCell ?_ | with_reducible refine Go.le_drew ?_ | omega | (dsimp only; omega)))⟩
    case rest =>
    obtain ⟨f2, rfl, hBc⟩ := hcut
    replace hB := hB.trans (hBc.mono hB.size)
    replace k4 := k4.below hBc k4.lt
    replace k5 := k5.below hBc k5.lt
    replace k6 := k6.below hBc k6.lt
    replace k7 := k7.below hBc k7.lt
    clear c40 c41 c50 c51 c60 c61 c70 c71 hBc hm1 hm2 wm1 wm2
    obtain ⟨W3, rfl⟩ : ∃ W, W = wc := ⟨_, rfl⟩
    have c40 : W3.cell? ⟨B4, 0, none⟩ = some (.int .i64 ax) := k4.cell 0
    have c41 : W3.cell? ⟨B4, 1, none⟩ = some (.int .i64 ay) := k4.cell 1
    have c50 : W3.cell? ⟨B4 + 1, 0, none⟩ = some (.int .i64 bx) := k5.cell 0
    have c51 : W3.cell? ⟨B4 + 1, 1, none⟩ = some (.int .i64 by_) := k5.cell 1
    have c60 : W3.cell? ⟨B4 + 1 + 1, 0, none⟩ = some (.int .i64 cx) := k6.cell 0
    have c61 : W3.cell? ⟨B4 + 1 + 1, 1, none⟩ = some (.int .i64 cy) := k6.cell 1
    have c70 : W3.cell? ⟨B4 + 1 + 1 + 1, 0, none⟩ = some (.int .i64 dx) := k7.cell 0
    have c71 : W3.cell? ⟨B4 + 1 + 1 + 1, 1, none⟩ = some (.int .i64 dy) := k7.cell 1
    by_cases hf2 : f2 = 0
    · subst hf2
      simp only [decide_true]
      go_wp2_with fail
      go_ret
      exact ⟨⟨_, rfl, by omega, by omega⟩, hB4.out ▸ hB⟩
    · simp only [hf2, decide_false]
      have hE := eqlPt
      have hG := guardPt
      obtain ⟨r1, o1⟩ : ∃ r, onF (cx, cy) (dx, dy) (ax, ay) = r := ⟨_, rfl⟩
      obtain ⟨r2, o2⟩ : ∃ r, onF (ax, ay) (bx, by_) (cx, cy) = r := ⟨_, rfl⟩
      obtain ⟨t1, ht1⟩ : ∃ t, (decide (ax = bx) && decide (ay = by_)) = t := ⟨_, rfl⟩
      obtain ⟨t2, ht2⟩ : ∃ t, (decide (cx = dx) && decide (cy = dy)) = t := ⟨_, rfl⟩
      replace hE := fun W => (eqlPt ax ay bx by_ W).trans (by rw [ht1])
      have hE2 := fun W => (eqlPt cx cy dx dy W).trans (by rw [ht2])
      replace o1 := Lib.hid o1
      replace o2 := Lib.hid o2
      replace ht1 := Lib.hid ht1
      replace ht2 := Lib.hid ht2
      go_upto_region 7 with fail
      go_cut [101] (fun v wx => ∃ f : Int, v = .bool (decide (f = 0)) ∧ Below W3.heap.size W3 wx)
      case first =>
        cases t1 with
        | true =>
          cases r1 with
          | false =>
            go_wp2_with (first | (go_at_call 134; refine (rside_any _ _ _ _ _ _ _ (by first | with_reducible exact e1.out | with_reducible exact e2.out | with_reducible exact e3.out | with_reducible exact e4.out) _).mono ?_; rintro e w' ⟨rfl, hb_⟩; obtain ⟨p, rfl⟩ := grow_of_below hb_; clear hb_) | (go_at_call 135; refine (ron4_any _ _ _ _ _ _ _ (by first | with_reducible exact o1.out | with_reducible exact o2.out) _).mono ?_; rintro e w' ⟨rfl, hb_⟩; obtain ⟨p, rfl⟩ := grow_of_below hb_; clear hb_) | fail)
            go_meet
            exact ⟨0, rfl, (by repeat' (first | with_reducible exact Below.refl _ _ | with_reducible exact Nat.le_refl _ | with_reducible assumption | with_reducible refine Go.below_growBy' ?_ ?_ _ | with_reducible refine Below.alloc ?_ ?_ _ | with_reducible refine Below.setCell ?_ ?_ _ | with_reducible refine Below.drew ?_ | with_reducible refine Go.le_alloc ?_ | with_reducible refine Go.le_growBy ?_ | with_reducible refine Go.le_setCell ?_ | with_reducible refine Go.le_drew ?_ | omega | (dsimp only; omega)))⟩
          | true =>
            cases t2 with
            | false =>
              go_wp2_with (first | (go_at_call 134; refine (rside_any _ _ _ _ _ _ _ (by first | with_reducible exact e1.out | with_reducible exact e2.out | with_reducible exact e3.out | with_reducible exact e4.out) _).mono ?_; rintro e w' ⟨rfl, hb_⟩; obtain ⟨p, rfl⟩ := grow_of_below hb_; clear hb_) | (go_at_call 135; refine (ron4_any _ _ _ _ _ _ _ (by first | with_reducible exact o1.out | with_reducible exact o2.out) _).mono ?_; rintro e w' ⟨rfl, hb_⟩; obtain ⟨p, rfl⟩ := grow_of_below hb_; clear hb_) | fail)
              go_meet
              exact ⟨1, rfl, (by repeat' (first | with_reducible exact Below.refl _ _ | with_reducible exact Nat.le_refl _ | with_reducible assumption | with_reducible refine Go.below_growBy' ?_ ?_ _ | with_reducible refine Below.alloc ?_ ?_ _ | with_reducible refine Below.setCell ?_ ?_ _ | with_reducible refine Below.drew ?_ | with_reducible refine Go.le_alloc ?_ | with_reducible refine Go.le_growBy ?_ | with_reducible refine Go.le_setCell ?_ | with_reducible refine Go.le_drew ?_ | omega | (dsimp only; omega)))⟩
            | true =>
              cases r2 with
              | false =>
                go_wp2_with (first | (go_at_call 134; refine (rside_any _ _ _ _ _ _ _ (by first | with_reducible exact e1.out | with_reducible exact e2.out | with_reducible exact e3.out | with_reducible exact e4.out) _).mono ?_; rintro e w' ⟨rfl, hb_⟩; obtain ⟨p, rfl⟩ := grow_of_below hb_; clear hb_) | (go_at_call 135; refine (ron4_any _ _ _ _ _ _ _ (by first | with_reducible exact o1.out | with_reducible exact o2.out) _).mono ?_; rintro e w' ⟨rfl, hb_⟩; obtain ⟨p, rfl⟩ := grow_of_below hb_; clear hb_) | fail)
                go_meet
                exact ⟨0, rfl, (by repeat' (first | with_reducible exact Below.refl _ _ | with_reducible exact Nat.le_refl _ | with_reducible assumption | with_reducible refine Go.below_growBy' ?_ ?_ _ | with_reducible refine Below.alloc ?_ ?_ _ | with_reducible refine Below.setCell ?_ ?_ _ | with_reducible refine Below.drew ?_ | with_reducible refine Go.le_alloc ?_ | with_reducible refine Go.le_growBy ?_ | with_reducible refine Go.le_setCell ?_ | with_reducible refine Go.le_drew ?_ | omega | (dsimp only; omega)))⟩
              | true =>
                go_wp2_with (first | (go_at_call 134; refine (rside_any _ _ _ _ _ _ _ (by first | with_reducible exact e1.out | with_reducible exact e2.out | with_reducible exact e3.out | with_reducible exact e4.out) _).mono ?_; rintro e w' ⟨rfl, hb_⟩; obtain ⟨p, rfl⟩ := grow_of_below hb_; clear hb_) | (go_at_call 135; refine (ron4_any _ _ _ _ _ _ _ (by first | with_reducible exact o1.out | with_reducible exact o2.out) _).mono ?_; rintro e w' ⟨rfl, hb_⟩; obtain ⟨p, rfl⟩ := grow_of_below hb_; clear hb_) | fail)
                go_meet
                exact ⟨1, rfl, (by repeat' (first | with_reducible exact Below.refl _ _ | with_reducible exact Nat.le_refl _ | with_reducible assumption | with_reducible refine Go.below_growBy' ?_ ?_ _ | with_reducible refine Below.alloc ?_ ?_ _ | with_reducible refine Below.setCell ?_ ?_ _ | with_reducible refine Below.drew ?_ | with_reducible refine Go.le_alloc ?_ | with_reducible refine Go.le_growBy ?_ | with_reducible refine Go.le_setCell ?_ | with_reducible refine Go.le_drew ?_ | omega | (dsimp only; omega)))⟩
        | false =>
          cases t2 with
          | false =>
            go_wp2_with (first | (go_at_call 134; refine (rside_any _ _ _ _ _ _ _ (by first | with_reducible exact e1.out | with_reducible exact e2.out | with_reducible exact e3.out | with_reducible exact e4.out) _).mono ?_; rintro e w' ⟨rfl, hb_⟩; obtain ⟨p, rfl⟩ := grow_of_below hb_; clear hb_) | (go_at_call 135; refine (ron4_any _ _ _ _ _ _ _ (by first | with_reducible exact o1.out | with_reducible exact o2.out) _).mono ?_; rintro e w' ⟨rfl, hb_⟩; obtain ⟨p, rfl⟩ := grow_of_below hb_; clear hb_) | fail)
            go_meet
            exact ⟨1, rfl, (by repeat' (first | with_reducible exact Below.refl _ _ | with_reducible exact Nat.le_refl _ | with_reducible assumption | with_reducible refine Go.below_growBy' ?_ ?_ _ | with_reducible refine Below.alloc ?_ ?_ _ | with_reducible refine Below.setCell ?_ ?_ _ | with_reducible refine Below.drew ?_ | with_reducible refine Go.le_alloc ?_ | with_reducible refine Go.le_growBy ?_ | with_reducible refine Go.le_setCell ?_ | with_reducible refine Go.le_drew ?_ | omega | (dsimp only; omega)))⟩
          | true =>
            cases r2 with
            | false =>
              go_wp2_with (first | (go_at_call 134; refine (rside_any _ _ _ _ _ _ _ (by first | with_reducible exact e1.out | with_reducible exact e2.out | with_reducible exact e3.out | with_reducible exact e4.out) _).mono ?_; rintro e w' ⟨rfl, hb_⟩; obtain ⟨p, rfl⟩ := grow_of_below hb_; clear hb_) | (go_at_call 135; refine (ron4_any _ _ _ _ _ _ _ (by first | with_reducible exact o1.out | with_reducible exact o2.out) _).mono ?_; rintro e w' ⟨rfl, hb_⟩; obtain ⟨p, rfl⟩ := grow_of_below hb_; clear hb_) | fail)
              go_meet
              exact ⟨0, rfl, (by repeat' (first | with_reducible exact Below.refl _ _ | with_reducible exact Nat.le_refl _ | with_reducible assumption | with_reducible refine Go.below_growBy' ?_ ?_ _ | with_reducible refine Below.alloc ?_ ?_ _ | with_reducible refine Below.setCell ?_ ?_ _ | with_reducible refine Below.drew ?_ | with_reducible refine Go.le_alloc ?_ | with_reducible refine Go.le_growBy ?_ | with_reducible refine Go.le_setCell ?_ | with_reducible refine Go.le_drew ?_ | omega | (dsimp only; omega)))⟩
            | true =>
              go_wp2_with (first | (go_at_call 134; refine (rside_any _ _ _ _ _ _ _ (by first | with_reducible exact e1.out | with_reducible exact e2.out | with_reducible exact e3.out | with_reducible exact e4.out) _).mono ?_; rintro e w' ⟨rfl, hb_⟩; obtain ⟨p, rfl⟩ := grow_of_below hb_; clear hb_) | (go_at_call 135; refine (ron4_any _ _ _ _ _ _ _ (by first | with_reducible exact o1.out | with_reducible exact o2.out) _).mono ?_; rintro e w' ⟨rfl, hb_⟩; obtain ⟨p, rfl⟩ := grow_of_below hb_; clear hb_) | fail)
              go_meet
              exact ⟨1, rfl, (by repeat' (first | with_reducible exact Below.refl _ _ | with_reducible exact Nat.le_refl _ | with_reducible assumption | with_reducible refine Go.below_growBy' ?_ ?_ _ | with_reducible refine Below.alloc ?_ ?_ _ | with_reducible refine Below.setCell ?_ ?_ _ | with_reducible refine Below.drew ?_ | with_reducible refine Go.le_alloc ?_ | with_reducible refine Go.le_growBy ?_ | with_reducible refine Go.le_setCell ?_ | with_reducible refine Go.le_drew ?_ | omega | (dsimp only; omega)))⟩
      case rest =>
      obtain ⟨f3, rfl, hBc⟩ := hcut
      replace hB := hB.trans (hBc.mono hB.size)
      clear hE hE2 hG
      by_cases hf3 : f3 = 0
      · subst hf3
        simp only [decide_true]
        go_wp2_with fail
        go_ret
        exact ⟨⟨_, rfl, by omega, by omega⟩, hB4.out ▸ hB⟩
      · simp only [hf3, decide_false]
        go_wp2_with fail
        go_ret
        exact ⟨⟨_, rfl, by omega, by omega⟩, hB4.out ▸ hB⟩
end Go.Proofs.YtjfdbigkbgolmaaGreatDoor

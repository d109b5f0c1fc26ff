import Derived.Test.YtfcmmclialeepaaRows
import Derived.Test.YtfcmmclialeepaaP1
import Derived.Test.YtfcmmclialeepaaP2
import Derived.Test.YtfcmmclialeepaaTools
import Derived.WalkKit
import Derived.WalkSpells
import Derived.WalkLawsBesides
import Derived.Lib.Hide
import Derived.BigQuiet
import Derived.Deep.QuietTactic
namespace Go.Proofs.Ytfcmmclialeepaa
open Go.RowKit

theorem ret_int {k : IntKind} {a b : Int} (h : a = b) : Ending.returned (.int k a) = .returned (.int k b) := by rw [h]

theorem ret_int2 {k : IntKind} {a b c d : Int} (h : a = b) (h' : c = d) : Ending.returned (.tuple #[.int k a, .int k c]) = .returned (.tuple #[.int k b, .int k d]) := by rw [h, h']

theorem ret_agg2 {k : IntKind} {a b c d : Int} (h : a = b) (h' : c = d) : Ending.returned (.agg #[.int k a, .int k c]) = .returned (.agg #[.int k b, .int k d]) := by rw [h, h']

set_option maxHeartbeats 400000 in
theorem cmp_any (a b : Int) (w : World) :
    Calls Try.prog 33 #[.int .i64 a, .int .i64 b] w fun e w' => e = .returned (.int .i64 (cmpI a b)) ∧ w = w' := by
  rcases Int.lt_trichotomy a b with h | h | h
  · have h1 : ¬ (b < a) := by omega
    go_enter Try.func33, Try.ntmps33
    go_wp2
    go_ret
    exact ⟨ret_int (cmpI_lt h).symm, rfl⟩
  · subst h
    go_enter Try.func33, Try.ntmps33
    go_wp2
    go_ret
    exact ⟨ret_int (cmpI_eq a).symm, rfl⟩
  · have h1 : ¬ (a < b) := by omega
    go_enter Try.func33, Try.ntmps33
    go_wp2
    go_ret
    exact ⟨ret_int (cmpI_gt h).symm, rfl⟩

set_option maxHeartbeats 400000 in
theorem sgn_any (n : Int) (w : World) :
    Calls Try.prog 28 #[.int .i64 n] w fun e w' => e = .returned (.int .i64 n.sign) ∧ w = w' := by
  go_enter Try.func28, Try.ntmps28
  go_wp2_with (go_at_call 33; refine (cmp_any _ _ _).mono ?_; rintro e w' ⟨rfl, rfl⟩)
  go_ret
  exact ⟨ret_int (by simp [cmpI]), rfl⟩

set_option maxHeartbeats 400000 in
theorem cmpu_any (a b : Int) (w : World) :
    Calls Try.prog 27 #[.int .u64 a, .int .u64 b] w fun e w' => e = .returned (.int .i64 (cmpI a b)) ∧ w = w' := by
  rcases Int.lt_trichotomy a b with h | h | h
  · have h1 : ¬ (b < a) := by omega
    go_enter Try.func27, Try.ntmps27
    go_wp2
    go_ret
    exact ⟨ret_int (cmpI_lt h).symm, rfl⟩
  · subst h
    go_enter Try.func27, Try.ntmps27
    go_wp2
    go_ret
    exact ⟨ret_int (cmpI_eq a).symm, rfl⟩
  · have h1 : ¬ (a < b) := by omega
    go_enter Try.func27, Try.ntmps27
    go_wp2
    go_ret
    exact ⟨ret_int (cmpI_gt h).symm, rfl⟩

set_option maxHeartbeats 400000 in
theorem sgnu_any (n : Int) (w : World) :
    Calls Try.prog 22 #[.int .u64 n] w fun e w' => e = .returned (.int .i64 n.sign) ∧ w = w' := by
  go_enter Try.func22, Try.ntmps22
  go_wp2_with (go_at_call 27; refine (cmpu_any _ _ _).mono ?_; rintro e w' ⟨rfl, rfl⟩)
  go_ret
  exact ⟨ret_int (by simp [cmpI]), rfl⟩

set_option maxHeartbeats 400000 in
theorem size_any (n : Int) (w : World) (h0 : -9223372036854775808 ≤ n) (h1 : n ≤ 9223372036854775807) :
    Calls Try.prog 21 #[.int .i64 n] w fun e w' => e = .returned (.int .u64 n.natAbs) ∧ w = w' := by
  by_cases h : n < 0
  · go_enter Try.func21, Try.ntmps21
    go_wp2
    go_ret
    exact ⟨ret_int (by rw [IntKind.wrap_u64, IntKind.wrap_u64]; omega), rfl⟩
  · go_enter Try.func21, Try.ntmps21
    go_wp2
    go_ret
    exact ⟨ret_int (by omega), rfl⟩

set_option maxHeartbeats 400000 in
theorem mul64_any (a b : Nat) (w : World) (ha : a < 18446744073709551616) (hb : b < 18446744073709551616) :
    Calls Try.prog 34 #[.int .u64 a, .int .u64 b] w fun e w' => e = .returned (.tuple #[.int .u64 (hiN a b), .int .u64 (loN a b)]) ∧ w = w' := by
  go_enter Try.func34, Try.ntmps34
  go_wp2
  go_ret2
  exact ⟨ret_int2 (hi_walk a b ha hb _ (mid_walk a b ha hb)) (lo_walk a b), rfl⟩

set_option maxHeartbeats 400000 in
theorem times_any (a b : Int) (w : World) (a0 : -9223372036854775808 ≤ a) (a1 : a ≤ 9223372036854775807) (b0 : -9223372036854775808 ≤ b) (b1 : b ≤ 9223372036854775807) :
    Calls Try.prog 29 #[.int .i64 a, .int .i64 b] w fun e w' => e = .returned (.agg #[.int .u64 (hiN a.natAbs b.natAbs), .int .u64 (loN a.natAbs b.natAbs)]) ∧ Below w.heap.size w w' := by
  go_enter Try.func29, Try.ntmps29
  go_wp2_with (first | (go_at_call 21; refine (size_any _ _ (by assumption) (by assumption)).mono ?_; rintro e w' ⟨rfl, rfl⟩) | (go_at_call 34; refine (mul64_any _ _ _ (by omega) (by omega)).mono ?_; rintro e w' ⟨rfl, rfl⟩))
  exact bodyPost_ret (v := .agg #[.int .u64 (hiN a.natAbs b.natAbs), .int .u64 (loN a.natAbs b.natAbs)]) (by simp [results, Try.results29, go_sem]) rfl ⟨rfl, (Below.refl _ _).alloc (Nat.le_refl _) _⟩

set_option maxHeartbeats 400000 in
theorem compare_any (h l h' l' : Int) (w : World) :
    Calls Try.prog 30 #[.agg #[.int .u64 h, .int .u64 l], .agg #[.int .u64 h', .int .u64 l']] w fun e w' => e = .returned (.int .i64 (cmp2 h l h' l')) ∧ Below w.heap.size w w' := by
  by_cases hc : cmpI h h' = 0
  · have hb : ((cmpI h h') != 0) = false := by simp [hc]
    have Hc := Lib.hid hc
    clear hc
    go_enter Try.func30, Try.ntmps30
    go_wp2_with (go_at_call 27; refine (cmpu_any _ _ _).mono ?_; rintro e w' ⟨rfl, rfl⟩)
    go_ret
    exact ⟨ret_int (by unfold cmp2; rw [if_pos Hc.out]), ((Below.refl _ _).alloc (Nat.le_refl _) _).alloc (by simp) _⟩
  · have hb : ((cmpI h h') != 0) = true := by simp [hc]
    have Hc := Lib.hid hc
    clear hc
    go_enter Try.func30, Try.ntmps30
    go_wp2_with (go_at_call 27; refine (cmpu_any _ _ _).mono ?_; rintro e w' ⟨rfl, rfl⟩)
    go_ret
    exact ⟨ret_int (by unfold cmp2; rw [if_neg Hc.out]), ((Below.refl _ _).alloc (Nat.le_refl _) _).alloc (by simp) _⟩

theorem bcell {W w1 : World} (hb : Below W.heap.size W w1) : (∀ b o, b < W.heap.size → w1.cell? ⟨b, o, none⟩ = W.cell? ⟨b, o, none⟩) ∧ (∀ b o, b < W.heap.size → w1.frozen? ⟨b, o, none⟩ = W.frozen? ⟨b, o, none⟩) :=
  ⟨fun b o h => hb.cell (p := ⟨b, o, none⟩) h, fun b o h => hb.frozen (p := ⟨b, o, none⟩) h⟩

theorem sgn_bd (n : Int) : -1 ≤ n.sign ∧ n.sign ≤ 1 := by rcases sign_cases n with h | h | h <;> rw [h] <;> decide

theorem sgn_mul_bd (a b : Int) : -1 ≤ a.sign * b.sign ∧ a.sign * b.sign ≤ 1 := by rw [← Int.sign_mul]; exact sgn_bd _

theorem cmp2_bd (a b c d : Int) : -1 ≤ cmp2 a b c d ∧ cmp2 a b c d ≤ 1 := by unfold cmp2 cmpI; split <;> exact sgn_bd _

theorem cmp2_nat (a b c d : Nat) : cmp2 (hiN a b) (loN a b) (hiN c d) (loN c d) = cmpI ((a * b : Nat) : Int) ((c * d : Nat) : Int) := cmp2_words _ _

theorem natAbs_lt (a : Int) (a0 : -9223372036854775808 ≤ a) (a1 : a ≤ 9223372036854775807) : a.natAbs < 18446744073709551616 := by omega

set_option maxHeartbeats 400000 in
theorem sign2_any (a b c d : Int) (w : World) (a0 : -9223372036854775808 ≤ a) (a1 : a ≤ 9223372036854775807) (b0 : -9223372036854775808 ≤ b) (b1 : b ≤ 9223372036854775807)
    (c0 : -9223372036854775808 ≤ c) (c1 : c ≤ 9223372036854775807) (d0 : -9223372036854775808 ≤ d) (d1 : d ≤ 9223372036854775807) :
    Calls Try.prog 23 #[.int .i64 a, .int .i64 b, .int .i64 c, .int .i64 d] w fun e w' => e = .returned (.int .i64 (sign2 a b c d)) ∧ Below w.heap.size w w' := by
  obtain ⟨p0, p1⟩ := sgn_mul_bd a b
  obtain ⟨q0, q1⟩ := sgn_mul_bd c d
  by_cases h : a.sign * b.sign = c.sign * d.sign
  · have H := Lib.hid h
    have hb : (a.sign * b.sign != c.sign * d.sign) = false := by simp [h]
    have HE := Lib.hid (sign2_eq h)
    clear h
    go_enter Try.func23, Try.ntmps23
    go_wp2_with (go_at_call 28; refine (sgn_any _ _).mono ?_; rintro e w' ⟨rfl, rfl⟩)
    refine (times_any _ _ _ a0 a1 b0 b1).mono ?_
    rintro e w1 ⟨rfl, hb1⟩
    go_wp2_with fail
    refine (times_any _ _ _ c0 c1 d0 d1).mono ?_
    rintro e w2 ⟨rfl, hb2⟩
    go_wp2_with fail
    refine (compare_any _ _ _ _ _).mono ?_
    rintro e w3 ⟨rfl, hb3⟩
    have hk : -1 ≤ a.sign * b.sign * cmp2 (hiN a.natAbs b.natAbs) (loN a.natAbs b.natAbs) (hiN c.natAbs d.natAbs) (loN c.natAbs d.natAbs) ∧ a.sign * b.sign * cmp2 (hiN a.natAbs b.natAbs) (loN a.natAbs b.natAbs) (hiN c.natAbs d.natAbs) (loN c.natAbs d.natAbs) ≤ 1 := by
      rw [cmp2_nat, HE.out]; exact sgn_bd _
    obtain ⟨k0, k1⟩ := hk
    go_wp2_with fail
    go_ret
    exact ⟨ret_int (by rw [cmp2_nat]; exact HE.out), hb1.trans ((hb2.mono hb1.size).trans (hb3.mono (Nat.le_trans hb1.size hb2.size)))⟩
  · have HE := Lib.hid (sign2_ne h)
    have hb : (a.sign * b.sign != c.sign * d.sign) = true := by simp [h]
    clear h
    go_enter Try.func23, Try.ntmps23
    go_wp2_with (go_at_call 28; refine (sgn_any _ _).mono ?_; rintro e w' ⟨rfl, rfl⟩)
    go_ret
    exact ⟨ret_int HE.out, Below.refl _ _⟩

theorem drewN_below {B : Nat} {a w : World} (h : Below B a w) : ∀ n, Below B a (w.drewN n)
  | 0 => h
  | n + 1 => by
    have := drewN_below h n
    exact ⟨this.os, this.tape, this.output, this.size, this.block⟩

/-- an int fits -/
def fits (n : Int) : Prop := -9223372036854775808 ≤ n ∧ n ≤ 9223372036854775807

theorem sign2_call (f : FuncId) (a b c d : Int) (w : World)
    (h : ∀ (a b c d : Int) (w : World), -9223372036854775808 ≤ a → a ≤ 9223372036854775807 → -9223372036854775808 ≤ b → b ≤ 9223372036854775807 → -9223372036854775808 ≤ c → c ≤ 9223372036854775807 → -9223372036854775808 ≤ d → d ≤ 9223372036854775807 →
      Calls Try.prog f #[.int .i64 a, .int .i64 b, .int .i64 c, .int .i64 d] w fun e w' => e = .returned (.int .i64 (sign2 a b c d)) ∧ Below w.heap.size w w')
    (ha : fits a) (hb : fits b) (hc : fits c) (hd : fits d) :
    Calls Try.prog f #[.int .i64 a, .int .i64 b, .int .i64 c, .int .i64 d] w fun e w' => e = .returned (.int .i64 (sign2 a b c d)) ∧ Below w.heap.size w w' :=
  h a b c d w ha.1 ha.2 hb.1 hb.2 hc.1 hc.2 hd.1 hd.2

/-- P1.2 -/
def cmpR (n d m e : Int) : Int := if d < 1 ∨ e < 1 then 0 else sign2 n e m d

theorem below_box2 (w : World) (o1 o2 : Obj) : Below w.heap.size w ((w.alloc o1).alloc o2) := ((Below.refl _ _).alloc (Nat.le_refl _) _).alloc (by simp) _

theorem below_box2_call {w w' : World} {o1 o2 : Obj} (h : Below ((w.alloc o1).alloc o2).heap.size ((w.alloc o1).alloc o2) w') : Below w.heap.size w w' :=
  (below_box2 w o1 o2).trans (h.mono (by simp; omega))

set_option maxHeartbeats 400000 in
theorem cmpr_any (n d m e : Int) (w : World) (hn : fits n) (hd : fits d) (hm : fits m) (he : fits e) :
    Calls Try.prog 15 #[.agg #[.int .i64 n, .int .i64 d], .agg #[.int .i64 m, .int .i64 e]] w fun r w' => r = .returned (.int .i64 (cmpR n d m e)) ∧ Below w.heap.size w w' := by
  have hs := sign2_call 23 n e m d ((w.alloc (.cells #[.int .i64 n, .int .i64 d] 37)).alloc (.cells #[.int .i64 m, .int .i64 e] 37)) sign2_any hn he hm hd
  have HS := Lib.hid hs
  clear hs
  by_cases h1 : d < 1
  · have HE : Hid (cmpR n d m e = 0) := by unfold cmpR; rw [if_pos (.inl h1)]; exact rfl
    go_enter Try.func15, Try.ntmps15
    go_wp2_with fail
    go_ret
    exact ⟨ret_int HE.out.symm, below_box2 _ _ _⟩
  · by_cases h2 : e < 1
    · have HE : Hid (cmpR n d m e = 0) := by unfold cmpR; rw [if_pos (.inr h2)]; exact rfl
      go_enter Try.func15, Try.ntmps15
      go_wp2_with fail
      go_ret
      exact ⟨ret_int HE.out.symm, below_box2 _ _ _⟩
    · have HE : Hid (cmpR n d m e = sign2 n e m d) := by unfold cmpR; rw [if_neg (by omega)]; exact rfl
      go_enter Try.func15, Try.ntmps15
      go_wp2_with fail
      refine HS.out.mono ?_
      rintro r w' ⟨rfl, hb⟩
      go_wp2_with fail
      go_ret
      exact ⟨ret_int HE.out.symm, below_box2_call hb⟩

theorem gcd_round (x y : Nat) (h : 0 < y) : Nat.gcd y (x % y) = Nat.gcd x y := by rw [Nat.gcd_comm y, ← Nat.gcd_rec, Nat.gcd_comm]

set_option maxHeartbeats 1000000 in
theorem gcd_any (a b : Int) (w : World) (ha : fits a) (hb : fits b) :
    Calls Try.prog 14 #[.int .i64 a, .int .i64 b] w fun r w' => r = .returned (.int .i64 (gcdI a b)) ∧ Below w.heap.size w w' := by
  obtain ⟨a0, a1⟩ := ha
  obtain ⟨b0, b1⟩ := hb
  have ha2 := natAbs_lt a a0 a1
  have hb2 := natAbs_lt b b0 b1
  go_enter Try.func14, Try.ntmps14
  go_wp2_with (go_at_call 21; refine (size_any _ _ (by assumption) (by assumption)).mono ?_; rintro e w' ⟨rfl, rfl⟩)
  go_loopw [5, 6] (fun u v wr => ∃ x y : Nat, x < 18446744073709551616 ∧ y < 18446744073709551616 ∧ u = .int .u64 x ∧ v = .int .u64 y ∧ Nat.gcd x y = Nat.gcd a.natAbs b.natAbs ∧ Below w.heap.size w wr) (fun _ v _ => (intOf v).toNat)
  case atStart => exact ⟨_, _, ha2, hb2, rfl, rfl, rfl, Below.refl _ _⟩
  case round =>
    obtain ⟨x, y, hx, hy, rfl, rfl, hg, hB⟩ := hrel
    have HG := Lib.hid hg
    clear hg
    by_cases h0 : y = 0
    · subst h0
      have HX : Hid (x = Nat.gcd a.natAbs b.natAbs) := by have := HG.out; rw [Nat.gcd_zero_right] at this; exact this
      go_wp2_with (go_at_call 22; refine (sgnu_any _ _).mono ?_; rintro e w' ⟨rfl, rfl⟩)
      · have hlt : 9223372036854775807 < (x : Int) := by assumption
        go_ret
        exact ⟨ret_int (by unfold gcdI; rw [← HX.out, if_neg (by omega)]), hB⟩
      · have hlt : (x : Int) ≤ 9223372036854775807 := by assumption
        go_ret
        exact ⟨ret_int (by unfold gcdI; rw [← HX.out, if_pos (by omega)]), hB⟩
    · have h1 : (((y : Int).sign) != 0) = true := by rw [Int.sign_eq_one_of_pos (by omega)]; rfl
      have hy1 : (1 : Int) ≤ y := by omega
      have HY : Hid (0 < y) := by exact (by omega : 0 < y)
      have hyb : ((y : Int) == 0) = false := by simp; omega
      clear h0
      go_wp2_with (go_at_call 22; refine (sgnu_any _ _).mono ?_; rintro e w' ⟨rfl, rfl⟩)
      go_quiet (fail)
      go_wp2_with fail
      go_roundw
      case rel => exact ⟨y, x % y, hy, Nat.lt_trans (Nat.mod_lt x HY.out) hy, rfl, by go_num, by rw [gcd_round x y HY.out]; exact HG.out, drewN_below hB _⟩
      case measure =>
        show ((x : Int) % y).toNat < ((y : Int)).toNat
        have := Int.emod_lt_of_pos (x : Int) (b := y) (by omega)
        omega
end Go.Proofs.Ytfcmmclialeepaa

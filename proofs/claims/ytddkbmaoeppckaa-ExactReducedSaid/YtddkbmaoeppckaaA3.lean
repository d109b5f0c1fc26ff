import Derived.Test.YtddkbmaoeppckaaA2
namespace Go.Proofs.Ytddkbmaoeppckaa
open Go.RowKit

/-- an int fits -/
def fits (n : Int) : Prop := -9223372036854775808 ≤ n ∧ n ≤ 9223372036854775807

theorem sign2_call (f : FuncId) (a b c d : Int) (w : World)
    (h : ∀ (a b c d : Int) (w : World), -9223372036854775808 ≤ a → a ≤ 9223372036854775807 → -9223372036854775808 ≤ b → b ≤ 9223372036854775807 → -9223372036854775808 ≤ c → c ≤ 9223372036854775807 → -9223372036854775808 ≤ d → d ≤ 9223372036854775807 →
      Calls Try.prog f #[.int .i64 a, .int .i64 b, .int .i64 c, .int .i64 d] w fun e w' => e = .returned (.int .i64 (sign2 a b c d)) ∧ Below w.heap.size w w')
    (ha : fits a) (hb : fits b) (hc : fits c) (hd : fits d) :
    Calls Try.prog f #[.int .i64 a, .int .i64 b, .int .i64 c, .int .i64 d] w fun e w' => e = .returned (.int .i64 (sign2 a b c d)) ∧ Below w.heap.size w w' :=
  h a b c d w ha.1 ha.2 hb.1 hb.2 hc.1 hc.2 hd.1 hd.2

/-- P1.2 -/
def cmpR (n d m e : Int) : Int := if d < 1 ∨ e < 1 then 0 else sign2 n e m d

theorem below_box2 (w : World) (o1 o2 : Obj) : Below w.heap.size w ((w.alloc o1).alloc o2) := ((Below.refl _ _).alloc (Nat.le_refl _) _).alloc (by simp) _
theorem below_box2_call {w w' : World} {o1 o2 : Obj} (h : Below ((w.alloc o1).alloc o2).heap.size ((w.alloc o1).alloc o2) w') : Below w.heap.size w w' :=
  (below_box2 w o1 o2).trans (h.mono (by simp; omega))

set_option maxHeartbeats 400000 in
theorem cmpr_any (n d m e : Int) (w : World) (hn : fits n) (hd : fits d) (hm : fits m) (he : fits e) :
    Calls Try.prog 12 #[.agg #[.int .i64 n, .int .i64 d], .agg #[.int .i64 m, .int .i64 e]] w fun r w' => r = .returned (.int .i64 (cmpR n d m e)) ∧ Below w.heap.size w w' := by
  have hs := sign2_call 10 n e m d ((w.alloc (.cells #[.int .i64 n, .int .i64 d] 27)).alloc (.cells #[.int .i64 m, .int .i64 e] 27)) sign2_any hn he hm hd
  have HS := Lib.hid hs
  clear hs
  by_cases h1 : d < 1
  · have HE : Hid (cmpR n d m e = 0) := by unfold cmpR; rw [if_pos (.inl h1)]; exact rfl
    go_enter Try.func12, Try.ntmps12
    go_wp2_with fail
    go_ret
    exact ⟨ret_int HE.out.symm, below_box2 _ _ _⟩
  · by_cases h2 : e < 1
    · have HE : Hid (cmpR n d m e = 0) := by unfold cmpR; rw [if_pos (.inr h2)]; exact rfl
      go_enter Try.func12, Try.ntmps12
      go_wp2_with fail
      go_ret
      exact ⟨ret_int HE.out.symm, below_box2 _ _ _⟩
    · have HE : Hid (cmpR n d m e = sign2 n e m d) := by unfold cmpR; rw [if_neg (by omega)]; exact rfl
      go_enter Try.func12, Try.ntmps12
      go_wp2_with fail
      refine HS.out.mono ?_
      rintro r w' ⟨rfl, hb⟩
      go_wp2_with fail
      go_ret
      exact ⟨ret_int HE.out.symm, below_box2_call hb⟩
set_option maxHeartbeats 400000 in
theorem rcmpr_any (n d m e : Int) (w : World) (hn : fits n) (hd : fits d) (hm : fits m) (he : fits e) :
    Calls Try.prog 13 #[.agg #[.int .i64 n, .int .i64 d], .agg #[.int .i64 m, .int .i64 e]] w fun r w' => r = .returned (.int .i64 (cmpR n d m e)) ∧ Below w.heap.size w w' := by
  have hs := sign2_call 11 n e m d ((w.alloc (.cells #[.int .i64 n, .int .i64 d] 27)).alloc (.cells #[.int .i64 m, .int .i64 e] 27)) rsign2_any hn he hm hd
  have HS := Lib.hid hs
  clear hs
  by_cases h1 : d < 1
  · have HE : Hid (cmpR n d m e = 0) := by unfold cmpR; rw [if_pos (.inl h1)]; exact rfl
    go_enter Try.func13, Try.ntmps13
    go_wp2_with fail
    go_ret
    exact ⟨ret_int HE.out.symm, below_box2 _ _ _⟩
  · by_cases h2 : e < 1
    · have HE : Hid (cmpR n d m e = 0) := by unfold cmpR; rw [if_pos (.inr h2)]; exact rfl
      go_enter Try.func13, Try.ntmps13
      go_wp2_with fail
      go_ret
      exact ⟨ret_int HE.out.symm, below_box2 _ _ _⟩
    · have HE : Hid (cmpR n d m e = sign2 n e m d) := by unfold cmpR; rw [if_neg (by omega)]; exact rfl
      go_enter Try.func13, Try.ntmps13
      go_wp2_with fail
      refine HS.out.mono ?_
      rintro r w' ⟨rfl, hb⟩
      go_wp2_with fail
      go_ret
      exact ⟨ret_int HE.out.symm, below_box2_call hb⟩

/-! ### greatest common divisors -/
theorem gcd_round (x y : Nat) (h : 0 < y) : Nat.gcd y (x % y) = Nat.gcd x y := by rw [Nat.gcd_comm y, ← Nat.gcd_rec, Nat.gcd_comm]

set_option maxHeartbeats 1000000 in
theorem gcd_any (a b : Int) (w : World) (ha : fits a) (hb : fits b) :
    Calls Try.prog 19 #[.int .i64 a, .int .i64 b] w fun r w' => r = .returned (.int .i64 (gcdI a b)) ∧ Below w.heap.size w w' := by
  obtain ⟨a0, a1⟩ := ha
  obtain ⟨b0, b1⟩ := hb
  have ha2 := natAbs_lt a a0 a1
  have hb2 := natAbs_lt b b0 b1
  go_enter Try.func19, Try.ntmps19
  go_wp2_with (go_at_call 29; refine (size_any _ _ (by assumption) (by assumption)).mono ?_; rintro e w' ⟨rfl, rfl⟩)
  go_loopw [5, 6] (fun u v wr => ∃ x y : Nat, x < 18446744073709551616 ∧ y < 18446744073709551616 ∧ u = .int .u64 x ∧ v = .int .u64 y ∧ Nat.gcd x y = Nat.gcd a.natAbs b.natAbs ∧ Below w.heap.size w wr) (fun _ v _ => (intOf v).toNat)
  case atStart => exact ⟨_, _, ha2, hb2, rfl, rfl, rfl, Below.refl _ _⟩
  case round =>
    obtain ⟨x, y, hx, hy, rfl, rfl, hg, hB⟩ := hrel
    have HG := Lib.hid hg
    clear hg
    by_cases h0 : y = 0
    · subst h0
      have HX : Hid (x = Nat.gcd a.natAbs b.natAbs) := by have := HG.out; rw [Nat.gcd_zero_right] at this; exact this
      go_wp2_with (go_at_call 30; refine (sgnu_any _ _).mono ?_; rintro e w' ⟨rfl, rfl⟩)
      · have hlt : 9223372036854775807 < (x : Int) := by assumption
        go_ret
        exact ⟨ret_int (by unfold gcdI; rw [← HX.out, if_neg (by omega)]), hB⟩
      · have hlt : (x : Int) ≤ 9223372036854775807 := by assumption
        go_ret
        exact ⟨ret_int (by unfold gcdI; rw [← HX.out, if_pos (by omega)]), hB⟩
    · have h1 : (((y : Int).sign) != 0) = true := by rw [Int.sign_eq_one_of_pos (by omega)]; rfl
      have hy1 : (1 : Int) ≤ y := by omega
      have HY : Hid (0 < y) := by exact (by omega : 0 < y)
      have hyb : ((y : Int) == 0) = false := by simp; omega
      clear h0
      go_wp2_with (go_at_call 30; refine (sgnu_any _ _).mono ?_; rintro e w' ⟨rfl, rfl⟩)
      go_quiet (fail)
      go_wp2_with fail
      go_roundw
      case rel => exact ⟨y, x % y, hy, Nat.lt_trans (Nat.mod_lt x HY.out) hy, rfl, by go_num, by rw [gcd_round x y HY.out]; exact HG.out, drewN_below hB _⟩
      case measure =>
        show ((x : Int) % y).toNat < ((y : Int)).toNat
        have := Int.emod_lt_of_pos (x : Int) (b := y) (by omega)
        omega
set_option maxHeartbeats 1000000 in
theorem rgcd_any (a b : Int) (w : World) (ha : fits a) (hb : fits b) :
    Calls Try.prog 20 #[.int .i64 a, .int .i64 b] w fun r w' => r = .returned (.int .i64 (gcdI a b)) ∧ Below w.heap.size w w' := by
  obtain ⟨a0, a1⟩ := ha
  obtain ⟨b0, b1⟩ := hb
  have ha2 := natAbs_lt a a0 a1
  have hb2 := natAbs_lt b b0 b1
  go_enter Try.func20, Try.ntmps20
  go_wp2_with (go_at_call 27; refine (rsize_any _ _ (by assumption) (by assumption)).mono ?_; rintro e w' ⟨rfl, rfl⟩)
  go_loopw [5, 6] (fun u v wr => ∃ x y : Nat, x < 18446744073709551616 ∧ y < 18446744073709551616 ∧ u = .int .u64 x ∧ v = .int .u64 y ∧ Nat.gcd x y = Nat.gcd a.natAbs b.natAbs ∧ Below w.heap.size w wr) (fun _ v _ => (intOf v).toNat)
  case atStart => exact ⟨_, _, ha2, hb2, rfl, rfl, rfl, Below.refl _ _⟩
  case round =>
    obtain ⟨x, y, hx, hy, rfl, rfl, hg, hB⟩ := hrel
    have HG := Lib.hid hg
    clear hg
    by_cases h0 : y = 0
    · subst h0
      have HX : Hid (x = Nat.gcd a.natAbs b.natAbs) := by have := HG.out; rw [Nat.gcd_zero_right] at this; exact this
      go_wp2_with fail
      · have hlt : 9223372036854775807 < (x : Int) := by assumption
        go_ret
        exact ⟨ret_int (by unfold gcdI; rw [← HX.out, if_neg (by omega)]), hB⟩
      · have hlt : (x : Int) ≤ 9223372036854775807 := by assumption
        go_ret
        exact ⟨ret_int (by unfold gcdI; rw [← HX.out, if_pos (by omega)]), hB⟩
    · have h1 : ((y : Int) != 0) = true := by simp; omega
      have hy1 : (1 : Int) ≤ y := by omega
      have HY : Hid (0 < y) := by exact (by omega : 0 < y)
      have hyb : ((y : Int) == 0) = false := by simp; omega
      clear h0
      go_wp2_with fail
      go_quiet (fail)
      go_wp2_with fail
      go_roundw
      case rel => exact ⟨y, x % y, hy, Nat.lt_trans (Nat.mod_lt x HY.out) hy, rfl, by go_num, by rw [gcd_round x y HY.out]; exact HG.out, drewN_below hB _⟩
      case measure =>
        show ((x : Int) % y).toNat < ((y : Int)).toNat
        have := Int.emod_lt_of_pos (x : Int) (b := y) (by omega)
        omega
end Go.Proofs.Ytddkbmaoeppckaa

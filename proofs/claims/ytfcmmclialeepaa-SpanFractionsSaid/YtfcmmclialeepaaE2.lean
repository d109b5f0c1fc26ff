import Derived.Test.YtfcmmclialeepaaE1
import Derived.Test.YtfcmmclialeepaaP3
namespace Go.Proofs.Ytfcmmclialeepaa
open Go.RowKit

def lowN (n d : Int) : Int := n.tdiv (gcdI n d)

def lowD (n d : Int) : Int := d / gcdI n d

theorem gcdI_pos {n d : Int} (hd : 1 ≤ d) (hd2 : d ≤ 9223372036854775807) : gcdI n d = (Nat.gcd n.natAbs d.natAbs : Nat) ∧ 1 ≤ gcdI n d ∧ gcdI n d ≤ d := by
  have h1 : Nat.gcd n.natAbs d.natAbs ≤ d.natAbs := Nat.gcd_le_right _ (by omega)
  have h2 : 0 < Nat.gcd n.natAbs d.natAbs := Nat.gcd_pos_of_pos_right _ (by omega)
  unfold gcdI
  rw [if_pos (by omega)]
  omega

theorem tdiv_bd {n g : Int} (hn : fits n) (hg : 1 ≤ g) : fits (n.tdiv g) := by
  have h1 : (n.tdiv g).natAbs ≤ n.natAbs := by rw [Int.natAbs_tdiv]; exact Nat.div_le_self _ _
  obtain ⟨a, b⟩ := hn
  by_cases h : n = -9223372036854775808
  · have h0 : n.tdiv g ≤ 0 := by
      have : (-n).tdiv g ≥ 0 := Int.tdiv_nonneg (by omega) (by omega)
      rw [Int.neg_tdiv] at this; omega
    exact ⟨by omega, by omega⟩
  · exact ⟨by omega, by omega⟩

theorem low_fits {n d : Int} (hn : fits n) (hd : fits d) (h : 1 ≤ d) : fits (lowN n d) ∧ fits (lowD n d) :=
  ⟨tdiv_bd hn (gcdI_pos h hd.2).2.1, by
    have hg := (gcdI_pos (n := n) h hd.2).2.1
    have h1 : lowD n d ≤ d := Int.ediv_le_self _ (by omega)
    have h2 : 0 ≤ lowD n d := Int.ediv_nonneg (by omega) (by omega)
    exact ⟨by omega, Int.le_trans h1 hd.2⟩⟩

theorem wrap_fits {n : Int} (h : fits n) : IntKind.i64.wrap n = n := IntWalk.i64_in _ h

set_option maxHeartbeats 1000000 in
theorem lowest_no (n d : Int) (w : World) (h : d < 1) :
    Calls Try.prog 20 #[.agg #[.int .i64 n, .int .i64 d]] w fun r w' => r = .returned (.tuple #[.agg #[.int .i64 0, .int .i64 0], .bool false]) ∧ Below w.heap.size w w' := by
  go_enter Try.func20, Try.ntmps20
  go_wp2_with fail
  exact bodyPost_ret (v := .tuple #[.agg #[.int .i64 0, .int .i64 0], .bool false]) (by simp [results, Try.results20, go_sem]) rfl ⟨rfl, below_box2 _ _ _⟩

set_option maxHeartbeats 1000000 in
theorem lowest_yes (n d : Int) (w : World) (hn : fits n) (hd : fits d) (h : 1 ≤ d) :
    Calls Try.prog 20 #[.agg #[.int .i64 n, .int .i64 d]] w fun r w' => r = .returned (.tuple #[.agg #[.int .i64 (lowN n d), .int .i64 (lowD n d)], .bool true]) ∧ Below w.heap.size w w' := by
  have h1 : ¬ d < 1 := by omega
  have hgp := gcdI_pos (n := n) h hd.2
  obtain ⟨-, hg1, hg2⟩ := hgp
  have hn' := hn
  have hd' := hd
  obtain ⟨n0, n1⟩ := hn'
  obtain ⟨d0, d1⟩ := hd'
  go_enter Try.func20, Try.ntmps20
  go_wp2_with fail
  refine (gcd_any _ _ _ hn hd).mono ?_
  rintro e w1 ⟨rfl, hb1⟩
  obtain ⟨hc, hf⟩ := bcell hb1
  have c0 : w1.cell? ⟨w.heap.size, 0, none⟩ = some (.int .i64 n) := by rw [hc _ _ (by simp; omega)]; simp
  have c1 : w1.cell? ⟨w.heap.size, 1, none⟩ = some (.int .i64 d) := by rw [hc _ _ (by simp; omega)]; simp
  have c2 : w1.cell? ⟨w.heap.size + 1, 0, none⟩ = some (.int .i64 0) := by rw [hc _ _ (by simp)]; simp
  have c3 : w1.cell? ⟨w.heap.size + 1, 1, none⟩ = some (.int .i64 0) := by rw [hc _ _ (by simp)]; simp
  have f2 : w1.frozen? ⟨w.heap.size + 1, 0, none⟩ = false := by rw [hf _ _ (by simp)]; simp
  have f3 : w1.frozen? ⟨w.heap.size + 1, 1, none⟩ = false := by rw [hf _ _ (by simp)]; simp
  clear hc hf
  go_wp2_with fail
  go_region
  all_goals
    go_wp2_with fail
    refine bodyPost_ret (v := .tuple #[.agg #[.int .i64 (lowN n d), .int .i64 (lowD n d)], .bool true]) ?_ rfl ⟨rfl, ?_⟩
    · simp [results, Try.results20, go_sem, c2, c3, lowN, lowD]
    · exact (((below_box2_call hb1).setCell (by simp) _).setCell (by simp) _).drew

theorem call_sqrt (args : Array Value) (w : World) : (callFunc 31 args).run Try.prog w = ((Extern.MathSqrt.sqrt args).run Try.prog w).andThen fun v w' => .ok (.value v) w' :=
  run_callFunc_extern Try.func31 (by kernel_rfl) (by kernel_rfl) (by kernel_rfl) (by kernel_rfl) args w

theorem run_sqrt (x r : Nat) (h : FloatKind.f64.format.sqrt x = some r) (w : World) : (Extern.MathSqrt.sqrt #[.float .f64 x]).run Try.prog w = .ok (.float .f64 r) w := by
  change Sem.run Try.prog ((match FloatKind.f64.format.sqrt x with | some r => pure (Value.float .f64 r) | none => do pure (Value.float .f64 (← choose (.nanBits .f64 x x)))) : Sem Value) w = _
  rw [h]
  rfl

theorem run_tofloat (n : Int) (w : World) : (convert 3 62 (.int .i64 n)).run Try.prog w = .ok (.float .f64 (FloatKind.f64.nearest n)) w := by
  simp [convert, run_underlying Try.underlying3, run_underlying Try.underlying62, Conv.intToFloat]

set_option maxHeartbeats 400000 in
theorem msqrt_any (x r : Nat) (w : World) (h : FloatKind.f64.format.sqrt x = some r) :
    Calls Try.prog 24 #[.float .f64 x] w fun e w' => e = .returned (.float .f64 r) ∧ w = w' := by
  have h1 := fun w => call_sqrt #[.float .f64 x] w
  have h2 := fun w => run_sqrt x r h w
  clear h
  go_enter Try.func24, Try.ntmps24
  go_wp2_with fail
  go_ret
  exact ⟨rfl, rfl⟩

set_option maxHeartbeats 1000000 in
theorem sqrt_any (n : Int) (w : World) (hn : fits n) :
    Calls Try.prog 17 #[.int .i64 n] w fun e w' => e = .returned (.int .i64 (root n)) ∧ Below w.heap.size w w' := by
  obtain ⟨n0, n1⟩ := hn
  by_cases h : n ≤ 0
  · have HR : Hid (root n = 0) := by
      by_cases h2 : n < 0
      · exact root_neg h2
      · have : n = 0 := by omega
        subst this; exact (by decide +kernel : root 0 = 0)
    go_enter Try.func17, Try.ntmps17
    go_wp2_with fail
    go_ret
    exact ⟨ret_int HR.out.symm, Below.refl _ _⟩
  · obtain ⟨r, k, hr, hk, k0, k1⟩ := float_root n (by omega) n1
    have hc1 := run_tofloat n
    have hc2 := fun w => run_convert_float_int (P := Try.prog) 62 3 .f64 .i64 r k (w := w) (by rw [Try.underlying62]; rfl) Try.underlying3 hk
    have HR := Lib.hid hr
    clear hr hk
    by_cases hk : k ≤ 3037000499
    all_goals
      go_enter Try.func17, Try.ntmps17
      go_wp2_with (go_at_call 24; refine (msqrt_any _ _ _ HR.out).mono ?_; rintro e w' ⟨rfl, rfl⟩)
      go_loop [3] (fun t => ∃ s : Int, 0 ≤ s ∧ s ≤ 3037000499 ∧ t = .int .i64 s) (fun t => (intOf t).toNat)
      case atStart => exact ⟨_, by omega, by omega, rfl⟩
      case round =>
        obtain ⟨s, s0, s1, rfl⟩ := hrel
        have hq0 := sq_le (a := 0) (b := s) (by omega) s0
        have hq1 := sq_le (a := s) (b := 3037000499) s0 s1
        by_cases hgt : n < s * s
        · have hs : 1 ≤ s := by
            by_cases h5 : s = 0
            · subst h5; omega
            · omega
          go_wp2_with fail
          go_round
          case rel => exact ⟨s - 1, by omega, by omega, rfl⟩
          case measure => simp [intOf]; omega
        · go_wp2_with fail
          clear hq0 hq1
          have HN : Hid (s * s ≤ n) := by exact (by omega : s * s ≤ n)
          clear hgt
          go_loop [3] (fun t => ∃ s : Int, 0 ≤ s ∧ s ≤ 3037000499 ∧ Hid (s * s ≤ n) ∧ t = .int .i64 s) (fun t => (3037000499 - intOf t).toNat)
          case atStart => exact ⟨_, s0, s1, HN, rfl⟩
          case round =>
            clear s0 s1 HN
            obtain ⟨t, t0, t1, HN, rfl⟩ := hrel
            have hq0 := sq_le (a := 0) (b := t + 1) (by omega) (by omega)
            by_cases hlt : t < 3037000499
            · have hq1 := sq_le (a := t + 1) (b := 3037000499) (by omega) (by omega)
              by_cases hle : (t + 1) * (t + 1) ≤ n
              · go_wp2_with fail
                go_round
                case rel => exact ⟨t + 1, by omega, by omega, hle, rfl⟩
                case measure => simp [intOf]; omega
              · go_wp2_with fail
                go_ret
                exact ⟨ret_int (root_of (by omega) ⟨t0, t1, HN.out, .inr (by omega)⟩), Below.refl _ _⟩
            · go_wp2_with fail
              go_ret
              exact ⟨ret_int (root_of (by omega) ⟨t0, t1, HN.out, .inl (by omega)⟩), Below.refl _ _⟩

/-- the four contracts of calls, with 'fits' -/
theorem c_sign2 (a b c d : Int) (w : World) (ha : fits a) (hb : fits b) (hc : fits c) (hd : fits d) :
    Calls Try.prog 23 #[.int .i64 a, .int .i64 b, .int .i64 c, .int .i64 d] w fun e w' => e = .returned (.int .i64 (sign2 a b c d)) ∧ Below w.heap.size w w' := sign2_call _ a b c d w sign2_any ha hb hc hd

theorem fits_of {n : Int} (h0 : -9223372036854775808 ≤ n) (h1 : n ≤ 9223372036854775807) : fits n := ⟨h0, h1⟩

theorem fits_wrap (n : Int) : fits (wrap64 n) := by unfold wrap64 fits; omega

theorem fits_lit {n : Int} (h : decide (-9223372036854775808 ≤ n ∧ n ≤ 9223372036854775807) = true) : fits n := (of_decide_eq_true h : -9223372036854775808 ≤ n ∧ n ≤ 9223372036854775807)
end Go.Proofs.Ytfcmmclialeepaa

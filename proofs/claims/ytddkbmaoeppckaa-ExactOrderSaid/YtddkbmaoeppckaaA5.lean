import Derived.Test.YtddkbmaoeppckaaA4
import Derived.Test.YtddkbmaoeppckaaP3
namespace Go.Proofs.Ytddkbmaoeppckaa
open Go.RowKit

theorem call_sqrt (args : Array Value) (w : World) : (callFunc 34 args).run Try.prog w = ((Extern.MathSqrt.sqrt args).run Try.prog w).andThen fun v w' => .ok (.value v) w' :=
  run_callFunc_extern Try.func34 (by kernel_rfl) (by kernel_rfl) (by kernel_rfl) (by kernel_rfl) args w

theorem run_sqrt (x r : Nat) (h : FloatKind.f64.format.sqrt x = some r) (w : World) : (Extern.MathSqrt.sqrt #[.float .f64 x]).run Try.prog w = .ok (.float .f64 r) w := by
  change Sem.run Try.prog ((match FloatKind.f64.format.sqrt x with | some r => pure (Value.float .f64 r) | none => do pure (Value.float .f64 (← choose (.nanBits .f64 x x)))) : Sem Value) w = _
  rw [h]
  rfl

theorem run_tofloat (n : Int) (w : World) : (convert 3 51 (.int .i64 n)).run Try.prog w = .ok (.float .f64 (FloatKind.f64.nearest n)) w := by
  simp [convert, run_underlying Try.underlying3, run_underlying Try.underlying51, Conv.intToFloat]

set_option maxHeartbeats 400000 in
theorem msqrt_any (x r : Nat) (w : World) (h : FloatKind.f64.format.sqrt x = some r) :
    Calls Try.prog 28 #[.float .f64 x] w fun e w' => e = .returned (.float .f64 r) ∧ w = w' := by
  have h1 := fun w => call_sqrt #[.float .f64 x] w
  have h2 := fun w => run_sqrt x r h w
  clear h
  go_enter Try.func28, Try.ntmps28
  go_wp2_with fail
  go_ret
  exact ⟨rfl, rfl⟩

set_option maxHeartbeats 1000000 in
theorem sqrt_any (n : Int) (w : World) (hn : fits n) :
    Calls Try.prog 15 #[.int .i64 n] w fun e w' => e = .returned (.int .i64 (root n)) ∧ Below w.heap.size w w' := by
  obtain ⟨n0, n1⟩ := hn
  by_cases h : n ≤ 0
  · have HR : Hid (root n = 0) := by
      by_cases h2 : n < 0
      · exact root_neg h2
      · have : n = 0 := by omega
        subst this; exact (by decide +kernel : root 0 = 0)
    go_enter Try.func15, Try.ntmps15
    go_wp2_with fail
    go_ret
    exact ⟨ret_int HR.out.symm, Below.refl _ _⟩
  · obtain ⟨r, k, hr, hk, k0, k1⟩ := float_root n (by omega) n1
    have hc1 := run_tofloat n
    have hc2 := fun w => run_convert_float_int (P := Try.prog) 51 3 .f64 .i64 r k (w := w) (by rw [Try.underlying51]; rfl) Try.underlying3 hk
    have HR := Lib.hid hr
    clear hr hk
    by_cases hk : k ≤ 3037000499
    all_goals
      go_enter Try.func15, Try.ntmps15
      go_wp2_with (go_at_call 28; refine (msqrt_any _ _ _ HR.out).mono ?_; rintro e w' ⟨rfl, rfl⟩)
      go_loop [3] (fun t => ∃ s : Int, 0 ≤ s ∧ s ≤ 3037000499 ∧ t = .int .i64 s) (fun t => (intOf t).toNat)
      case atStart => exact ⟨_, by omega, by omega, rfl⟩
      case round =>
        obtain ⟨s, s0, s1, rfl⟩ := hrel
        have hq0 := sq_le (a := 0) (b := s) (by omega) s0
        have hq1 := sq_le (a := s) (b := 3037000499) s0 s1
        by_cases hgt : n < s * s
        · have hs : 1 ≤ s := by
            by_cases h5 : s = 0
            · subst h5; omega
            · omega
          go_wp2_with fail
          go_round
          case rel => exact ⟨s - 1, by omega, by omega, rfl⟩
          case measure => simp [intOf]; omega
        · go_wp2_with fail
          clear hq0 hq1
          have HN : Hid (s * s ≤ n) := by exact (by omega : s * s ≤ n)
          clear hgt
          go_loop [3] (fun t => ∃ s : Int, 0 ≤ s ∧ s ≤ 3037000499 ∧ Hid (s * s ≤ n) ∧ t = .int .i64 s) (fun t => (3037000499 - intOf t).toNat)
          case atStart => exact ⟨_, s0, s1, HN, rfl⟩
          case round =>
            clear s0 s1 HN
            obtain ⟨t, t0, t1, HN, rfl⟩ := hrel
            have hq0 := sq_le (a := 0) (b := t + 1) (by omega) (by omega)
            by_cases hlt : t < 3037000499
            · have hq1 := sq_le (a := t + 1) (b := 3037000499) (by omega) (by omega)
              by_cases hle : (t + 1) * (t + 1) ≤ n
              · go_wp2_with fail
                go_round
                case rel => exact ⟨t + 1, by omega, by omega, hle, rfl⟩
                case measure => simp [intOf]; omega
              · go_wp2_with fail
                go_ret
                exact ⟨ret_int (root_of (by omega) ⟨t0, t1, HN.out, .inr (by omega)⟩), Below.refl _ _⟩
            · go_wp2_with fail
              go_ret
              exact ⟨ret_int (root_of (by omega) ⟨t0, t1, HN.out, .inl (by omega)⟩), Below.refl _ _⟩

theorem pow_le31 (k : Nat) (h : k ≤ 31) : (2 : Int) ^ k ≤ 2147483648 := by
  have h1 : (2 : Nat) ^ k ≤ 2 ^ 31 := Nat.pow_le_pow_right (by decide) h
  have h2 : ((2 ^ k : Nat) : Int) ≤ ((2 ^ 31 : Nat) : Int) := by omega
  simpa using h2

set_option maxHeartbeats 1000000 in
theorem rsqrt_any (n : Int) (w : World) (hn : fits n) :
    Calls Try.prog 16 #[.int .i64 n] w fun e w' => e = .returned (.int .i64 (root n)) ∧ Below w.heap.size w w' := by
  obtain ⟨n0, n1⟩ := hn
  go_enter Try.func16, Try.ntmps16
  go_wp2_with fail
  go_loop [3, 4] (fun u v => ∃ (k : Nat) (out : Int), k ≤ 32 ∧ 0 ≤ out ∧ out ≤ 3037000499 ∧ Hid (rootBits n k out = root n) ∧ u = .int .i64 out ∧ v = .int .i64 ((k : Int) - 1)) (fun _ v => (intOf v + 1).toNat)
  case atStart => exact ⟨32, 0, by omega, by omega, by omega, rfl, rfl, rfl⟩
  case round =>
    obtain ⟨k, out, hk, o0, o1, HR, rfl, rfl⟩ := hrel
    cases k with
    | zero =>
      go_wp2_with fail
      go_ret
      exact ⟨ret_int HR.out, Below.refl _ _⟩
    | succ k =>
      have hp0 : (1 : Int) ≤ 2 ^ k := Int.pow_pos (by decide)
      have hp1 : (2 : Int) ^ k ≤ 2147483648 := pow_le31 k (by omega)
      have hq0 := sq_le (a := 0) (b := out + 2 ^ k) (by omega) (by omega)
      by_cases h1 : out + 2 ^ k ≤ 3037000499
      · have hq1 := sq_le (a := out + 2 ^ k) (b := 3037000499) (by omega) h1
        by_cases h2 : (out + 2 ^ k) * (out + 2 ^ k) ≤ n
        · have HR2 : Hid (rootBits n k (out + 2 ^ k) = root n) := by
            have := HR.out; unfold rootBits at this; rw [if_pos ⟨h1, h2⟩] at this; exact this
          go_wp2_with fail
          go_round
          case rel => exact ⟨k, _, by omega, by omega, h1, HR2, rfl, rfl⟩
          case measure => simp [intOf]
        · have HR2 : Hid (rootBits n k out = root n) := by
            have := HR.out; unfold rootBits at this; rw [if_neg (fun h => h2 h.2)] at this; exact this
          go_wp2_with fail
          go_round
          case rel => exact ⟨k, _, by omega, o0, o1, HR2, rfl, rfl⟩
          case measure => simp [intOf]
      · have HR2 : Hid (rootBits n k out = root n) := by
          have := HR.out; unfold rootBits at this; rw [if_neg (fun h => h1 h.1)] at this; exact this
        go_wp2_with fail
        go_round
        case rel => exact ⟨k, _, by omega, o0, o1, HR2, rfl, rfl⟩
        case measure => simp [intOf]
end Go.Proofs.Ytddkbmaoeppckaa

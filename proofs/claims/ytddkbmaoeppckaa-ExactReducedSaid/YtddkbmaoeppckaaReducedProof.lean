/-
  'ExactReduced': for every ratio (made right) and factor the function returns true: what Lowest returns is equal to the ratio, has no common divisor, and is the same for all ratios that are equal; the greatest common divisor divides both, and that of multiples is the multiple. The arguments read as they did.
-/
import Derived.Test.YtddkbmaoeppckaaA7
import Derived.Test.YtddkbmaoeppckaaFrame
import Derived.Test.YtddkbmaoeppckaaTail
namespace Go.Proofs.Ytddkbmaoeppckaa
open Go.RowKit

structure Reduced (n d f : Int) : Prop where
  g1 : 1 ≤ gcdI n d
  gd : gcdI n d ≤ d
  lN : lowN (n * f) (d * f) = lowN n d
  lD : lowD (n * f) (d * f) = lowD n d
  eq : cmpR (lowN n d) (lowD n d) (n * f) (d * f) = 0
  co : gcdI (lowN n d) (lowD n d) = 1
  dn : (n.tmod (gcdI n d) == 0) = true
  dd : (d % gcdI n d == 0) = true
  mu : gcdI (n * f) (d * f) = gcdI n d * f
  sy : gcdI d n = gcdI n d
  lo : (lowD n d == d / gcdI n d) = true
  l1 : 1 ≤ lowD n d

theorem reduced (n d f : Int) (hd : 1 ≤ d) (hd2 : d ≤ 1099511627776) (hf : 1 ≤ f) (hf2 : f ≤ 1048576) : Reduced n d f := by
  have hdf1 : 1 ≤ d * f := by have := Int.mul_pos (a := d) (b := f) (by omega) (by omega); omega
  have hdf2 : d * f ≤ 1099511627776 * 1048576 := Int.mul_le_mul hd2 hf2 (by omega) (by decide)
  obtain ⟨e, g1, gd⟩ := gcdI_pos (n := n) hd (by omega)
  obtain ⟨e2, -, -⟩ := gcdI_pos (n := n * f) hdf1 (by omega)
  have hg : (gcdI n d) ∣ n := by rw [e]; exact Int.ofNat_dvd_left.2 (Nat.gcd_dvd_left _ _)
  have hg2 : (gcdI n d) ∣ d := by rw [e]; exact Int.ofNat_dvd_left.2 (Nat.gcd_dvd_right _ _)
  have hmu : gcdI (n * f) (d * f) = gcdI n d * f := by
    rw [e2, e, Int.natAbs_mul, Int.natAbs_mul, Nat.gcd_mul_right, Int.natCast_mul]
    congr 1
    omega
  obtain ⟨k, hk⟩ := hg
  obtain ⟨l, hl⟩ := hg2
  have hN : lowN n d = k := by unfold lowN; rw (occs := [1]) [hk]; exact Int.mul_tdiv_cancel_left _ (by omega)
  have hD : lowD n d = l := by unfold lowD; rw (occs := [1]) [hl]; exact Int.mul_ediv_cancel_left _ (by omega)
  have hl1 : 1 ≤ l := by
    by_cases h : 1 ≤ l
    · exact h
    · have : gcdI n d * l ≤ gcdI n d * 0 := Int.mul_le_mul_of_nonneg_left (by omega) (by omega)
      omega
  have hgf : gcdI n d * f ≠ 0 := by
    have := Int.mul_pos (a := gcdI n d) (b := f) (by omega) (by omega)
    omega
  refine ⟨g1, gd, ?_, ?_, ?_, ?_, ?_, ?_, hmu, ?_, ?_, by omega⟩
  · unfold lowN at hN ⊢
    rw [hmu, hN, show n * f = gcdI n d * f * k from by rw (occs := [1]) [hk]; rw [Int.mul_right_comm]]
    exact Int.mul_tdiv_cancel_left _ hgf
  · unfold lowD at hD ⊢
    rw [hmu, hD, show d * f = gcdI n d * f * l from by rw (occs := [1]) [hl]; rw [Int.mul_right_comm]]
    exact Int.mul_ediv_cancel_left _ hgf
  · rw [hN, hD]
    unfold cmpR
    rw [if_neg (by omega)]
    unfold sign2
    have : k * (d * f) - n * f * l = 0 := by rw (occs := [1]) [hl]; rw (occs := [2]) [hk]; grind
    rw [this]; rfl
  · rw [hN, hD]
    have h1 : Nat.gcd (n.natAbs / Nat.gcd n.natAbs d.natAbs) (d.natAbs / Nat.gcd n.natAbs d.natAbs) = 1 := Nat.coprime_div_gcd_div_gcd (by omega)
    have hkn : k.natAbs = n.natAbs / Nat.gcd n.natAbs d.natAbs := by
      have : n.natAbs = Nat.gcd n.natAbs d.natAbs * k.natAbs := by
        rw (occs := [1]) [hk, e]; rw [Int.natAbs_mul]; rfl
      rw (occs := [1]) [this]
      exact (Nat.mul_div_cancel_left _ (by omega)).symm
    have hln : l.natAbs = d.natAbs / Nat.gcd n.natAbs d.natAbs := by
      have : d.natAbs = Nat.gcd n.natAbs d.natAbs * l.natAbs := by
        rw (occs := [1]) [hl, e]; rw [Int.natAbs_mul]; rfl
      rw (occs := [1]) [this]
      exact (Nat.mul_div_cancel_left _ (by omega)).symm
    unfold gcdI
    rw [hkn, hln, h1]
    rfl
  · rw [beq_iff_eq]; rw (occs := [1]) [hk]; exact Int.mul_tmod_right _ _
  · rw [beq_iff_eq]; rw (occs := [1]) [hl]; exact Int.mul_emod_right _ _
  · unfold gcdI; rw [Nat.gcd_comm]
  · exact beq_self_eq_true _

theorem rem40 (n : Int) : -1099511627776 < n.tmod 1099511627776 ∧ n.tmod 1099511627776 < 1099511627776 :=
  ⟨Int.lt_tmod_of_pos n (by decide), Int.tmod_lt_of_pos n (by decide)⟩
theorem mul_60 {a b : Int} (a0 : -1099511627776 ≤ a) (a1 : a ≤ 1099511627776) (b0 : 0 ≤ b) (b1 : b ≤ 1048576) : -1152921504606846976 ≤ a * b ∧ a * b ≤ 1152921504606846976 := by
  have h : (a * b).natAbs ≤ 1099511627776 * 1048576 := by rw [Int.natAbs_mul]; exact Nat.mul_le_mul (by omega) (by omega)
  omega

set_option maxRecDepth 100000 in
set_option maxHeartbeats 2000000 in
theorem reduced_any (a b c : Int) (w : World) (ha : fits a) (hb : fits b) (hc : fits c) :
    Calls Try.prog 8 #[.agg #[.int .i64 a, .int .i64 b], .int .i64 c] w fun r w' => r = .returned (.bool true) ∧ Below w.heap.size w w' := by
  have ⟨_a0, _a1⟩ := ha
  have ⟨_b0, _b1⟩ := hb
  have ⟨_c0, _c1⟩ := hc
  obtain ⟨a0, a1⟩ := rem40 a
  have b0 := Int.emod_nonneg b (b := 1099511627776) (by decide)
  have b1 := Int.emod_lt_of_pos b (b := 1099511627776) (by decide)
  have c0 := Int.emod_nonneg c (b := 1048576) (by decide)
  have c1 := Int.emod_lt_of_pos c (b := 1048576) (by decide)
  go_enter Try.func8, Try.ntmps8
  go_wp2_with (go_at_call 9; refine (sanity_any _).mono ?_; rintro e w' ⟨rfl, hb_⟩; obtain ⟨p, rfl⟩ := grow_of_below hb_; clear hb_)
  first | with_reducible refine wp_region_grow_tail2 7 (by kernel_rfl) (by kernel_rfl) ?_ | with_reducible refine wp_region_grow_tail 7 (by kernel_rfl) (by kernel_rfl) ?_
  simp only [List.take_succ_cons, List.take_zero, List.drop_succ_cons, List.drop_zero]
  repeat (first | go_big_quiet_step ((go_at_call 14; exact Calls.grow_of_same (mod_any _ _ _ hb (by decide) (by decide)))) | quiet_step ((go_at_call 14; exact Calls.grow_of_same (mod_any _ _ _ hb (by decide) (by decide)))))
  refine wpQuiet_nil ?_
  intro _ hw_
  obtain ⟨p, hw_⟩ := hw_
  subst hw_
  go_wp2_with (go_at_call 14; refine (mod_any _ _ _ hc (by decide) (by decide)).mono ?_; rintro e w' ⟨rfl, rfl⟩)
  obtain ⟨d, hd⟩ : ∃ x, x = b % 1099511627776 + 1 := ⟨_, rfl⟩
  obtain ⟨f, hf⟩ : ∃ x, x = c % 1048576 + 1 := ⟨_, rfl⟩
  have d1 : 1 ≤ d := by omega
  have d2 : d ≤ 1099511627776 := by omega
  have f1 : 1 ≤ f := by omega
  have f2 : f ≤ 1048576 := by omega
  rw [← hd, ← hf]
  clear hd hf b0 b1 c0 c1
  generalize a.tmod 1099511627776 = n at *
  have R := reduced n d f d1 d2 f1 f2
  obtain ⟨m0, m1⟩ := mul_60 (a := n) (by omega) (by omega) (by omega) f2
  obtain ⟨m2, m3⟩ := mul_60 (a := d) (by omega) (by omega) (by omega) f2
  have m4 : 1 ≤ d * f := by have := Int.mul_pos (a := d) (b := f) (by omega) (by omega); omega
  have fn : fits n := ⟨by omega, by omega⟩
  have fd : fits d := ⟨by omega, by omega⟩
  have fnf : fits (n * f) := ⟨by omega, by omega⟩
  have fdf : fits (d * f) := ⟨by omega, by omega⟩
  obtain ⟨flN, flD⟩ := low_fits fn fd d1
  have r1 := R.g1
  have r2 := R.gd
  have r3 := R.lN
  have r4 := R.lD
  have r5 := R.eq
  have r6 := R.co
  have r7 := R.dn
  have r8 := R.dd
  have r9 := R.mu
  have r10 := R.sy
  have r11 := R.lo
  have r12 := R.l1
  obtain ⟨m5, m6⟩ := mul_60 (a := gcdI n d) (by omega) (by omega) (by omega) f2
  clear R
  rw [IntWalk.wrap64_in (n * f) ⟨by omega, by omega⟩, IntWalk.wrap64_in (d * f) ⟨by omega, by omega⟩]
  refine (lowest_yes n d _ fn fd d1).mono ?_
  rintro e w1 ⟨rfl, hb1⟩
  obtain ⟨p, rfl⟩ := grow_of_below hb1
  clear hb1
  go_wp2_with fail
  refine (lowest_yes (n * f) (d * f) _ fnf fdf m4).mono ?_
  rintro e w1 ⟨rfl, hb1⟩
  obtain ⟨p, rfl⟩ := grow_of_below hb1
  clear hb1
  go_wp2_with (go_at_call 19; refine (gcd_any n d _ fn fd).mono ?_; rintro e w' ⟨rfl, hb_⟩; obtain ⟨p, rfl⟩ := grow_of_below hb_; clear hb_)
  first | with_reducible refine wp_region_grow2 (by kernel_rfl) (by kernel_rfl) ?_ | with_reducible refine wp_region_grow (by kernel_rfl) (by kernel_rfl) ?_
  repeat (first | go_big_quiet_step (first | (go_at_call 12; exact Calls.grow_of (cmpr_any _ _ _ _ _ (by assumption) (by assumption) (by assumption) (by assumption))) | (go_at_call 19; exact Calls.grow_of (gcd_any _ _ _ (by assumption) (by assumption)))) | quiet_step (first | (go_at_call 12; exact Calls.grow_of (cmpr_any _ _ _ _ _ (by assumption) (by assumption) (by assumption) (by assumption))) | (go_at_call 19; exact Calls.grow_of (gcd_any _ _ _ (by assumption) (by assumption)))))
  refine wpQuiet_nil ?_
  intro _ hw_
  obtain ⟨p, hw_⟩ := hw_
  subst hw_
  go_wp2_with fail
  go_ret
  exact ⟨rfl, (by repeat' (first | with_reducible exact Below.refl _ _ | with_reducible exact Nat.le_refl _ | with_reducible assumption | with_reducible refine Go.below_growBy' ?_ ?_ _ | with_reducible refine Below.alloc ?_ ?_ _ | with_reducible refine Below.setCell ?_ ?_ _ | with_reducible refine Below.drew ?_ | with_reducible refine Go.le_alloc ?_ | with_reducible refine Go.le_growBy ?_ | with_reducible refine Go.le_setCell ?_ | with_reducible refine Go.le_drew ?_ | omega))⟩
end Go.Proofs.Ytddkbmaoeppckaa
namespace Go.Proofs.Ytddkbmaoeppckaa.exactReduced
open Go.ChangeShapes Go.WideShapes Go.ChangeAt Go.RowKit
set_option linter.unusedVariables false

theorem own : ownKnob Try.prog.godebug = none := by kernel_rfl
theorem laidOut : laidOutB Try.prog = true := by kernel_rfl

theorem walk (W : World) (base : Nat) (args : Array Value) (hval : ∀ (j : Nat) t v, Try.f8.params[j]? = some t → args[j]? = some v → Value.okWide Try.prog W .any base t v) (hsz : args.toList.length = 2) :
    Calls Try.prog 8 args W fun e W' => e = .returned (.bool true) ∧ Below W.heap.size W W' := by
  obtain ⟨v0, v1, rfl⟩ : ∃ v0 v1, args = #[v0, v1] := by
    match args, hsz with
    | ⟨[v0, v1]⟩, _ => exact ⟨v0, v1, rfl⟩
  obtain ⟨xs, hn, rfl, hx⟩ := okWide_ints (n := 2) (k := .i64) (ts := [3, 3]) (by rw [Try.underlying27]) (by kernel_rfl) (by kernel_rfl) (by kernel_rfl) (hval 0 27 v0 rfl rfl)
  obtain ⟨c, rfl, hc⟩ := okWide_int_has Try.underlying3 (hval 1 3 v1 rfl rfl)
  match xs, hn with
  | [a, b], _ => exact reduced_any a b c W (hx a (by simp)) (hx b (by simp)) hc

set_option maxRecDepth 100000 in
theorem lifted (os : Os) (started : os.Started) (H : Type) (enc : TypeId × Value → H) :
    ReturnsInHanded {} Try.checked os 8 .any (Rows.exactReducedSpec.pre6 enc Try.prog Try.f8 Rows.exactReducedRow.domain false) (Rows.exactReducedSpec.post enc Try.prog Try.f8 false true false false) := by
  refine returnsInHanded_of_change (C := Try.checked) own started (by kernel_rfl) Try.func8
    (ChangeSpec.witness6 (enc := enc) (C := Try.checked) false ⟨#[], #[.agg #[.int .i64 0, .int .i64 0], .int .i64 0], []⟩ 8 (by kernel_rfl) (by kernel_rfl) (by kernel_rfl) (by kernel_rfl)) ?_
  intro W base args ds gs before hval0 hW hcnd _
  exact law_calls 4 laidOut (by kernel_rfl) rfl rfl Try.underlying4 (fun ds h => match ds, h with | [_, _], _ => rfl) hW (fun hsz _ => walk W base args hval0 hsz)

theorem over : Rows.exactReducedRow.holds Try.pinned (OpenSpec.ofChange Rows.exactReducedSpec) :=
  OpenClaim.holds_of_wide 8 Try.f8 rfl rfl rfl rfl rfl rfl rfl ⟨rfl, rfl, rfl, rfl, rfl⟩ rfl rfl rfl rfl rfl (by kernel_rfl) Try.func8 (by kernel_rfl)
    (of_decide_eq_true (by kernel_rfl)) (by unfold Func.isWrapper; first | (rw [if_pos (by decide +kernel)]; kernel_rfl) | (rw [if_neg (by decide +kernel)]; exact ⟨rfl, rfl⟩))
    (fun os started H enc _ => lifted os started H enc)

theorem proved : Rows.ExactReducedSaid := over
#print axioms proved
end Go.Proofs.Ytddkbmaoeppckaa.exactReduced

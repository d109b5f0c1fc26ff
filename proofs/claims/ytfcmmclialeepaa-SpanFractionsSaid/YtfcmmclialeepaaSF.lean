/-
  'SpanFractions' answers true for every argument: no condition.
-/
import Derived.Test.YtfcmmclialeepaaPF
import Derived.Test.YtfcmmclialeepaaST
namespace Go.Proofs.Ytfcmmclialeepaa
open Go.RowKit Go.Shelf
attribute [local go_sem] Oper.semAt_some

theorem cmpr_eq {n d m e r : Int} (hr : cmpR n d m e = r) (w : World) (hn : fits n) (hd : fits d) (hm : fits m) (he : fits e) :
    Calls Try.prog 15 #[.agg #[.int .i64 n, .int .i64 d], .agg #[.int .i64 m, .int .i64 e]] w fun o w' => o = .returned (.int .i64 r) ∧ Below w.heap.size w w' := by
  have h := cmpr_any n d m e w hn hd hm he
  rw [hr] at h
  exact h
theorem gcd_eq {a b r : Int} (hr : gcdI a b = r) (w : World) (ha : fits a) (hb : fits b) :
    Calls Try.prog 14 #[.int .i64 a, .int .i64 b] w fun o w' => o = .returned (.int .i64 r) ∧ Below w.heap.size w w' := by
  have h := gcd_any a b w ha hb
  rw [hr] at h
  exact h

set_option maxRecDepth 100000 in
set_option maxHeartbeats 4000000 in
theorem fractions_law (a : Option Addr) (len cap : Nat) (n p_ : Int) (w : World) (hI : Ints w.heap.size w (.slice a len cap) len) (n0 : 0 ≤ n) (n1 : n ≤ 255) (p0 : 0 ≤ p_) (p1 : p_ ≤ 4294967295) :
    Calls Try.prog 5 #[.slice a len cap, .int .u8 n, .int .u32 p_] w fun r w' => r = .returned (.bool true) ∧ Below w.heap.size w w' := by
  go_enter Try.func5, Try.ntmps5
  go_wp2_with (go_at_call 6; refine (sanity_any _).mono ?_; rintro e w' ⟨rfl, hb_⟩; obtain ⟨p, rfl⟩ := grow_of_below hb_; clear hb_)
  refine (made_any a len cap _ (hI.up (by repeat' (first | with_reducible exact Below.refl _ _ | with_reducible exact Nat.le_refl _ | with_reducible assumption | with_reducible refine Go.below_growBy' ?_ ?_ _ | with_reducible refine Below.alloc ?_ ?_ _ | with_reducible refine Below.setCell ?_ ?_ _ | with_reducible refine Below.drew ?_ | with_reducible refine Go.le_alloc ?_ | with_reducible refine Go.le_growBy ?_ | with_reducible refine Go.le_setCell ?_ | with_reducible refine Go.le_drew ?_ | omega | (dsimp only; omega))) (by repeat' (first | with_reducible exact Below.refl _ _ | with_reducible exact Nat.le_refl _ | with_reducible assumption | with_reducible refine Go.below_growBy' ?_ ?_ _ | with_reducible refine Below.alloc ?_ ?_ _ | with_reducible refine Below.setCell ?_ ?_ _ | with_reducible refine Below.drew ?_ | with_reducible refine Go.le_alloc ?_ | with_reducible refine Go.le_growBy ?_ | with_reducible refine Go.le_setCell ?_ | with_reducible refine Go.le_drew ?_ | omega | (dsimp only; omega))))).mono ?_
  rintro e W1 ⟨d, b, cap2, evs, rfl, hE, hl8, hR, hb⟩
  have hB1 : Below w.heap.size w W1 := Below.trans (b := w.growBy p) (by repeat' (first | with_reducible exact Below.refl _ _ | with_reducible exact Nat.le_refl _ | with_reducible assumption | with_reducible refine Go.below_growBy' ?_ ?_ _ | with_reducible refine Below.alloc ?_ ?_ _ | with_reducible refine Below.setCell ?_ ?_ _ | with_reducible refine Below.drew ?_ | with_reducible refine Go.le_alloc ?_ | with_reducible refine Go.le_growBy ?_ | with_reducible refine Go.le_setCell ?_ | with_reducible refine Go.le_drew ?_ | omega | (dsimp only; omega))) (hb.mono (by repeat' (first | with_reducible exact Below.refl _ _ | with_reducible exact Nat.le_refl _ | with_reducible assumption | with_reducible refine Go.below_growBy' ?_ ?_ _ | with_reducible refine Below.alloc ?_ ?_ _ | with_reducible refine Below.setCell ?_ ?_ _ | with_reducible refine Below.drew ?_ | with_reducible refine Go.le_alloc ?_ | with_reducible refine Go.le_growBy ?_ | with_reducible refine Go.le_setCell ?_ | with_reducible refine Go.le_drew ?_ | omega | (dsimp only; omega))))
  have hsW := hB1.size
  clear hb
  by_cases h0 : evs.length = 0
  · obtain rfl := List.eq_nil_of_length_eq_zero h0
    have hd : doingF p_ [] = { n := 0, up := 0, down := 0, ok := false } := rfl
    have hd := Lib.hid hd
    go_wp2_with (go_at_call 11; refine (doing_eq (fits_of (by omega) (by omega)) (hE.up (by repeat' (first | with_reducible exact Below.refl _ _ | with_reducible exact Nat.le_refl _ | with_reducible assumption | with_reducible refine Go.below_growBy' ?_ ?_ _ | with_reducible refine Below.alloc ?_ ?_ _ | with_reducible refine Below.setCell ?_ ?_ _ | with_reducible refine Below.drew ?_ | with_reducible refine Go.le_alloc ?_ | with_reducible refine Go.le_growBy ?_ | with_reducible refine Go.le_setCell ?_ | with_reducible refine Go.le_drew ?_ | omega | (dsimp only; omega))) (by repeat' (first | with_reducible exact Below.refl _ _ | with_reducible exact Nat.le_refl _ | with_reducible assumption | with_reducible refine Go.below_growBy' ?_ ?_ _ | with_reducible refine Below.alloc ?_ ?_ _ | with_reducible refine Below.setCell ?_ ?_ _ | with_reducible refine Below.drew ?_ | with_reducible refine Go.le_alloc ?_ | with_reducible refine Go.le_growBy ?_ | with_reducible refine Go.le_setCell ?_ | with_reducible refine Go.le_drew ?_ | omega | (dsimp only; omega)))) hd.out).mono ?_; rintro e w' ⟨rfl, hb_⟩; obtain ⟨p, rfl⟩ := grow_of_below hb_; clear hb_)
    go_ret
    exact ⟨by first | rfl | simp, (by repeat' (first | with_reducible exact Below.refl _ _ | with_reducible exact Nat.le_refl _ | with_reducible assumption | with_reducible refine Go.below_growBy' ?_ ?_ _ | with_reducible refine Below.alloc ?_ ?_ _ | with_reducible refine Below.setCell ?_ ?_ _ | with_reducible refine Below.drew ?_ | with_reducible refine Go.le_alloc ?_ | with_reducible refine Go.le_growBy ?_ | with_reducible refine Go.le_setCell ?_ | with_reducible refine Go.le_drew ?_ | omega | (dsimp only; omega)))⟩
  · have h0' : ¬ (evs.length : Int) = 0 := by omega
    have hl8' : (evs.length : Int) ≤ 8 := by omega
    obtain ⟨kn, hkn, hk⟩ : ∃ kn : Nat, n.tmod evs.length = kn ∧ kn < evs.length := ⟨(n.tmod evs.length).toNat, by have := Int.tmod_nonneg (evs.length : Int) n0; omega, by have := Int.tmod_lt_of_pos n (b := (evs.length : Int)) (by omega); have := Int.tmod_nonneg (evs.length : Int) n0; omega⟩
    have hk' : (kn : Int) < (evs.length : Int) := by omega
    obtain ⟨bb, off, rfl, hbb, hrows⟩ : ∃ bb off, b = some ⟨bb, off, none⟩ ∧ bb < W1.heap.size ∧ ∀ j, (h : j < evs.length) → EvRow W1 bb (off + j * 5) evs[j] := by
      rcases hE with ⟨-, rfl⟩ | ⟨bb, off, cap', h1, hbb, hl, hc⟩
      · exact absurd rfl h0
      · cases h1
        exact ⟨bb, off, rfl, hbb, hc⟩
    have cK : W1.cell? ⟨bb, off + kn * 5 + 1, none⟩ = some (.int .i64 (atE evs kn)) := by rw [atE_get hk]; exact (hrows kn hk).c1
    obtain ⟨g0, g1, g2⟩ := hR.beg_lt hk
    have ha := hR.at hk
    obtain ⟨ha0, ha1⟩ := ha
    have hq := sq_in (a := atE evs kn) ⟨by omega, ha1⟩
    obtain ⟨hq0, hq1⟩ := hq
    go_wp2_with fail
    first | with_reducible refine wp_region_grow2 (by kernel_rfl) (by kernel_rfl) ?_ | with_reducible refine wp_region_grow (by kernel_rfl) (by kernel_rfl) ?_
    repeat (first | go_big_quiet_step (fail) | quiet_step (fail))
    refine wpQuiet_nil ?_
    intro _ hw_
    obtain ⟨p, hw_⟩ := hw_
    subst hw_
    obtain ⟨bg, hbg⟩ : ∃ bg, begE evs kn = bg := ⟨_, rfl⟩
    obtain ⟨en, hen⟩ : ∃ en, atE evs kn * atE evs kn = en := ⟨_, rfl⟩
    have hnb := Lib.hid (hbg ▸ hR.not_begin hk)
    rw [hen] at g1 g2 hq0 hq1
    rw [hbg] at g0 g1
    have cL0 : ∀ j, j < evs.length → W1.cell? ⟨bb, off + j * 5 + 1, none⟩ = some (.int .i64 (atE evs j)) := fun j hj => by rw [atE_get hj]; exact (hrows j hj).c1
    clear hrows
    rcases Nat.eq_zero_or_pos kn with hz | hz
    · have hb0 : bg = 0 := by rw [← hbg, hz]; rfl
      subst hz
      subst hb0
      by_cases hs : en < 2
      · go_wp2_with (go_at_call 11; refine (doing_eq (fits_of (by omega) (by omega)) (hE.up (by repeat' (first | with_reducible exact Below.refl _ _ | with_reducible exact Nat.le_refl _ | with_reducible assumption | with_reducible refine Go.below_growBy' ?_ ?_ _ | with_reducible refine Below.alloc ?_ ?_ _ | with_reducible refine Below.setCell ?_ ?_ _ | with_reducible refine Below.drew ?_ | with_reducible refine Go.le_alloc ?_ | with_reducible refine Go.le_growBy ?_ | with_reducible refine Go.le_setCell ?_ | with_reducible refine Go.le_drew ?_ | omega | (dsimp only; omega))) (by repeat' (first | with_reducible exact Below.refl _ _ | with_reducible exact Nat.le_refl _ | with_reducible assumption | with_reducible refine Go.below_growBy' ?_ ?_ _ | with_reducible refine Below.alloc ?_ ?_ _ | with_reducible refine Below.setCell ?_ ?_ _ | with_reducible refine Below.drew ?_ | with_reducible refine Go.le_alloc ?_ | with_reducible refine Go.le_growBy ?_ | with_reducible refine Go.le_setCell ?_ | with_reducible refine Go.le_drew ?_ | omega | (dsimp only; omega)))) hnb.out).mono ?_; rintro e w' ⟨rfl, hb_⟩; obtain ⟨p, rfl⟩ := grow_of_below hb_; clear hb_)
        go_ret
        exact ⟨by first | rfl | simp, (by repeat' (first | with_reducible exact Below.refl _ _ | with_reducible exact Nat.le_refl _ | with_reducible assumption | with_reducible refine Go.below_growBy' ?_ ?_ _ | with_reducible refine Below.alloc ?_ ?_ _ | with_reducible refine Below.setCell ?_ ?_ _ | with_reducible refine Below.drew ?_ | with_reducible refine Go.le_alloc ?_ | with_reducible refine Go.le_growBy ?_ | with_reducible refine Go.le_setCell ?_ | with_reducible refine Go.le_drew ?_ | omega | (dsimp only; omega)))⟩
      · have hm0 : ¬ en - 1 = 0 := by omega
        have hq2 := Int.emod_nonneg p_ hm0
        have hq3 := Int.emod_lt_of_pos p_ (b := en - 1) (by omega)
        obtain ⟨q, hqq⟩ : ∃ q, p_ % (en - 1) = q := ⟨_, rfl⟩
        rw [hqq] at hq2 hq3
        obtain ⟨N1, D1, hst, hsq⟩ := hR.step_lt hk hbg hen hq2 (by omega)
        obtain ⟨hd1, n1, nlt, nle, nco, neq, np0, np1⟩ := hst
        simp only [Int.zero_add, Int.sub_zero] at hd1 neq np0 np1 hsq
        have np2 : 0 ≤ D1 * (1 + q) := by rw [← neq]; exact np0
        have np3 : D1 * (1 + q) ≤ 1099511627776 := by rw [← neq]; exact np1
        have hd1 := Lib.hid hd1
        have nco := Lib.hid nco
        clear hR
        rcases hsq with ⟨he, hdn, hd2⟩ | ⟨he, N2, D2, hd2, b1, b2, b3, b4, hcm⟩
        · have heb : (1 + q + 1 == en) = true := by simp [he]
          rw [he] at hdn hd2
          have he := Lib.hid he
          have hdn := Lib.hid hdn
          have hd2 := Lib.hid hd2
          go_wp2_with (first | (go_at_call 11; refine (doing_eq (fits_of (by omega) (by omega)) (hE.up (by repeat' (first | with_reducible exact Below.refl _ _ | with_reducible exact Nat.le_refl _ | with_reducible assumption | with_reducible refine Go.below_growBy' ?_ ?_ _ | with_reducible refine Below.alloc ?_ ?_ _ | with_reducible refine Below.setCell ?_ ?_ _ | with_reducible refine Below.drew ?_ | with_reducible refine Go.le_alloc ?_ | with_reducible refine Go.le_growBy ?_ | with_reducible refine Go.le_setCell ?_ | with_reducible refine Go.le_drew ?_ | omega | (dsimp only; omega))) (by repeat' (first | with_reducible exact Below.refl _ _ | with_reducible exact Nat.le_refl _ | with_reducible assumption | with_reducible refine Go.below_growBy' ?_ ?_ _ | with_reducible refine Below.alloc ?_ ?_ _ | with_reducible refine Below.setCell ?_ ?_ _ | with_reducible refine Below.drew ?_ | with_reducible refine Go.le_alloc ?_ | with_reducible refine Go.le_growBy ?_ | with_reducible refine Go.le_setCell ?_ | with_reducible refine Go.le_drew ?_ | omega | (dsimp only; omega)))) (by first | with_reducible exact hnb.out | with_reducible exact hd1.out | with_reducible exact hd2.out)).mono ?_; rintro e w' ⟨rfl, hb_⟩; obtain ⟨p, rfl⟩ := grow_of_below hb_; clear hb_) | (go_at_call 14; refine (gcd_eq nco.out _ (fits_of (by omega) (by omega)) (fits_of (by omega) (by omega))).mono ?_; rintro e w' ⟨rfl, hb_⟩; obtain ⟨p, rfl⟩ := grow_of_below hb_; clear hb_) | (go_at_call 15; refine (cmpr_eq rfl _ (fits_of (by omega) (by omega)) (fits_of (by omega) (by omega)) (fits_of (by omega) (by omega)) (fits_of (by omega) (by omega))).mono ?_; rintro e w' ⟨rfl, hb_⟩; obtain ⟨p, rfl⟩ := grow_of_below hb_; clear hb_) | (go_at_call 13; refine (done_eq (hE.up (by repeat' (first | with_reducible exact Below.refl _ _ | with_reducible exact Nat.le_refl _ | with_reducible assumption | with_reducible refine Go.below_growBy' ?_ ?_ _ | with_reducible refine Below.alloc ?_ ?_ _ | with_reducible refine Below.setCell ?_ ?_ _ | with_reducible refine Below.drew ?_ | with_reducible refine Go.le_alloc ?_ | with_reducible refine Go.le_growBy ?_ | with_reducible refine Go.le_setCell ?_ | with_reducible refine Go.le_drew ?_ | omega | (dsimp only; omega))) (by repeat' (first | with_reducible exact Below.refl _ _ | with_reducible exact Nat.le_refl _ | with_reducible assumption | with_reducible refine Go.below_growBy' ?_ ?_ _ | with_reducible refine Below.alloc ?_ ?_ _ | with_reducible refine Below.setCell ?_ ?_ _ | with_reducible refine Below.drew ?_ | with_reducible refine Go.le_alloc ?_ | with_reducible refine Go.le_growBy ?_ | with_reducible refine Go.le_setCell ?_ | with_reducible refine Go.le_drew ?_ | omega | (dsimp only; omega)))) hdn.out).mono ?_; rintro e w' ⟨rfl, hb_⟩; obtain ⟨p, rfl⟩ := grow_of_below hb_; clear hb_))
          go_ret
          exact ⟨by first | rfl | (simp; done), (by repeat' (first | with_reducible exact Below.refl _ _ | with_reducible exact Nat.le_refl _ | with_reducible assumption | with_reducible refine Go.below_growBy' ?_ ?_ _ | with_reducible refine Below.alloc ?_ ?_ _ | with_reducible refine Below.setCell ?_ ?_ _ | with_reducible refine Below.drew ?_ | with_reducible refine Go.le_alloc ?_ | with_reducible refine Go.le_growBy ?_ | with_reducible refine Go.le_setCell ?_ | with_reducible refine Go.le_drew ?_ | omega | (dsimp only; omega)))⟩
        · have hd2 := Lib.hid hd2
          have hcm := Lib.hid hcm
          go_wp2_with (first | (go_at_call 11; refine (doing_eq (fits_of (by omega) (by omega)) (hE.up (by repeat' (first | with_reducible exact Below.refl _ _ | with_reducible exact Nat.le_refl _ | with_reducible assumption | with_reducible refine Go.below_growBy' ?_ ?_ _ | with_reducible refine Below.alloc ?_ ?_ _ | with_reducible refine Below.setCell ?_ ?_ _ | with_reducible refine Below.drew ?_ | with_reducible refine Go.le_alloc ?_ | with_reducible refine Go.le_growBy ?_ | with_reducible refine Go.le_setCell ?_ | with_reducible refine Go.le_drew ?_ | omega | (dsimp only; omega))) (by repeat' (first | with_reducible exact Below.refl _ _ | with_reducible exact Nat.le_refl _ | with_reducible assumption | with_reducible refine Go.below_growBy' ?_ ?_ _ | with_reducible refine Below.alloc ?_ ?_ _ | with_reducible refine Below.setCell ?_ ?_ _ | with_reducible refine Below.drew ?_ | with_reducible refine Go.le_alloc ?_ | with_reducible refine Go.le_growBy ?_ | with_reducible refine Go.le_setCell ?_ | with_reducible refine Go.le_drew ?_ | omega | (dsimp only; omega)))) (by first | with_reducible exact hnb.out | with_reducible exact hd1.out | with_reducible exact hd2.out)).mono ?_; rintro e w' ⟨rfl, hb_⟩; obtain ⟨p, rfl⟩ := grow_of_below hb_; clear hb_) | (go_at_call 14; refine (gcd_eq nco.out _ (fits_of (by omega) (by omega)) (fits_of (by omega) (by omega))).mono ?_; rintro e w' ⟨rfl, hb_⟩; obtain ⟨p, rfl⟩ := grow_of_below hb_; clear hb_) | (go_at_call 15; refine (cmpr_eq hcm.out _ (fits_of (by omega) (by omega)) (fits_of (by omega) (by omega)) (fits_of (by omega) (by omega)) (fits_of (by omega) (by omega))).mono ?_; rintro e w' ⟨rfl, hb_⟩; obtain ⟨p, rfl⟩ := grow_of_below hb_; clear hb_) | (go_at_call 13; refine (done_eq (hE.up (by repeat' (first | with_reducible exact Below.refl _ _ | with_reducible exact Nat.le_refl _ | with_reducible assumption | with_reducible refine Go.below_growBy' ?_ ?_ _ | with_reducible refine Below.alloc ?_ ?_ _ | with_reducible refine Below.setCell ?_ ?_ _ | with_reducible refine Below.drew ?_ | with_reducible refine Go.le_alloc ?_ | with_reducible refine Go.le_growBy ?_ | with_reducible refine Go.le_setCell ?_ | with_reducible refine Go.le_drew ?_ | omega | (dsimp only; omega))) (by repeat' (first | with_reducible exact Below.refl _ _ | with_reducible exact Nat.le_refl _ | with_reducible assumption | with_reducible refine Go.below_growBy' ?_ ?_ _ | with_reducible refine Below.alloc ?_ ?_ _ | with_reducible refine Below.setCell ?_ ?_ _ | with_reducible refine Below.drew ?_ | with_reducible refine Go.le_alloc ?_ | with_reducible refine Go.le_growBy ?_ | with_reducible refine Go.le_setCell ?_ | with_reducible refine Go.le_drew ?_ | omega | (dsimp only; omega)))) rfl).mono ?_; rintro e w' ⟨rfl, hb_⟩; obtain ⟨p, rfl⟩ := grow_of_below hb_; clear hb_))
          go_ret
          exact ⟨by first | rfl | (simp; done), (by repeat' (first | with_reducible exact Below.refl _ _ | with_reducible exact Nat.le_refl _ | with_reducible assumption | with_reducible refine Go.below_growBy' ?_ ?_ _ | with_reducible refine Below.alloc ?_ ?_ _ | with_reducible refine Below.setCell ?_ ?_ _ | with_reducible refine Below.drew ?_ | with_reducible refine Go.le_alloc ?_ | with_reducible refine Go.le_growBy ?_ | with_reducible refine Go.le_setCell ?_ | with_reducible refine Go.le_drew ?_ | omega | (dsimp only; omega)))⟩
    · obtain ⟨k1, rfl⟩ : ∃ k1, kn = k1 + 1 := ⟨kn - 1, by omega⟩
      have cL : W1.cell? ⟨bb, off + k1 * 5 + 1, none⟩ = some (.int .i64 (atE evs k1)) := cL0 k1 (by omega)
      have hbg1 : atE evs k1 * atE evs k1 = bg := hbg
      have hbg2 := hbg
      have hbg := Lib.hid hbg
      have hbg2 : bg ≤ 1048576 := by omega
      have hkI : (k1 : Int) < evs.length := by omega
      go_wp2_with fail
      first | with_reducible refine wp_region_grow2 (by kernel_rfl) (by kernel_rfl) ?_ | with_reducible refine wp_region_grow (by kernel_rfl) (by kernel_rfl) ?_
      repeat (first | go_big_quiet_step (fail) | quiet_step (fail))
      refine wpQuiet_nil ?_
      intro _ hw_
      obtain ⟨p, hw_⟩ := hw_
      subst hw_
      by_cases hs : (en - bg) < 2
      · go_wp2_with (go_at_call 11; refine (doing_eq (fits_of (by omega) (by omega)) (hE.up (by repeat' (first | with_reducible exact Below.refl _ _ | with_reducible exact Nat.le_refl _ | with_reducible assumption | with_reducible refine Go.below_growBy' ?_ ?_ _ | with_reducible refine Below.alloc ?_ ?_ _ | with_reducible refine Below.setCell ?_ ?_ _ | with_reducible refine Below.drew ?_ | with_reducible refine Go.le_alloc ?_ | with_reducible refine Go.le_growBy ?_ | with_reducible refine Go.le_setCell ?_ | with_reducible refine Go.le_drew ?_ | omega | (dsimp only; omega))) (by repeat' (first | with_reducible exact Below.refl _ _ | with_reducible exact Nat.le_refl _ | with_reducible assumption | with_reducible refine Go.below_growBy' ?_ ?_ _ | with_reducible refine Below.alloc ?_ ?_ _ | with_reducible refine Below.setCell ?_ ?_ _ | with_reducible refine Below.drew ?_ | with_reducible refine Go.le_alloc ?_ | with_reducible refine Go.le_growBy ?_ | with_reducible refine Go.le_setCell ?_ | with_reducible refine Go.le_drew ?_ | omega | (dsimp only; omega)))) hnb.out).mono ?_; rintro e w' ⟨rfl, hb_⟩; obtain ⟨p, rfl⟩ := grow_of_below hb_; clear hb_)
        go_ret
        exact ⟨by first | rfl | simp, (by repeat' (first | with_reducible exact Below.refl _ _ | with_reducible exact Nat.le_refl _ | with_reducible assumption | with_reducible refine Go.below_growBy' ?_ ?_ _ | with_reducible refine Below.alloc ?_ ?_ _ | with_reducible refine Below.setCell ?_ ?_ _ | with_reducible refine Below.drew ?_ | with_reducible refine Go.le_alloc ?_ | with_reducible refine Go.le_growBy ?_ | with_reducible refine Go.le_setCell ?_ | with_reducible refine Go.le_drew ?_ | omega | (dsimp only; omega)))⟩
      · have hm0 : ¬ (en - bg) - 1 = 0 := by omega
        have hq2 := Int.emod_nonneg p_ hm0
        have hq3 := Int.emod_lt_of_pos p_ (b := (en - bg) - 1) (by omega)
        obtain ⟨q, hqq⟩ : ∃ q, p_ % ((en - bg) - 1) = q := ⟨_, rfl⟩
        rw [hqq] at hq2 hq3
        obtain ⟨N1, D1, hst, hsq⟩ := hR.step_lt hk hbg hen hq2 (by omega)
        obtain ⟨hd1, n1, nlt, nle, nco, neq, np0, np1⟩ := hst
        have hx : bg + 1 + q - bg = 1 + q := by omega
        have np2 : 0 ≤ D1 * (1 + q) := by rw [← neq]; exact np0
        have np3 : D1 * (1 + q) ≤ 1099511627776 := by rw [← neq]; exact np1
        have hd1 := Lib.hid hd1
        have nco := Lib.hid nco
        clear hR
        rcases hsq with ⟨he, hdn, hd2⟩ | ⟨he, N2, D2, hd2, b1, b2, b3, b4, hcm⟩
        · have heb : (bg + 1 + q + 1 == en) = true := by simp [he]
          rw [he] at hdn hd2
          have he := Lib.hid he
          have hdn := Lib.hid hdn
          have hd2 := Lib.hid hd2
          go_wp2_with (first | (go_at_call 11; refine (doing_eq (fits_of (by omega) (by omega)) (hE.up (by repeat' (first | with_reducible exact Below.refl _ _ | with_reducible exact Nat.le_refl _ | with_reducible assumption | with_reducible refine Go.below_growBy' ?_ ?_ _ | with_reducible refine Below.alloc ?_ ?_ _ | with_reducible refine Below.setCell ?_ ?_ _ | with_reducible refine Below.drew ?_ | with_reducible refine Go.le_alloc ?_ | with_reducible refine Go.le_growBy ?_ | with_reducible refine Go.le_setCell ?_ | with_reducible refine Go.le_drew ?_ | omega | (dsimp only; omega))) (by repeat' (first | with_reducible exact Below.refl _ _ | with_reducible exact Nat.le_refl _ | with_reducible assumption | with_reducible refine Go.below_growBy' ?_ ?_ _ | with_reducible refine Below.alloc ?_ ?_ _ | with_reducible refine Below.setCell ?_ ?_ _ | with_reducible refine Below.drew ?_ | with_reducible refine Go.le_alloc ?_ | with_reducible refine Go.le_growBy ?_ | with_reducible refine Go.le_setCell ?_ | with_reducible refine Go.le_drew ?_ | omega | (dsimp only; omega)))) (by first | with_reducible exact hnb.out | with_reducible exact hd1.out | with_reducible exact hd2.out)).mono ?_; rintro e w' ⟨rfl, hb_⟩; obtain ⟨p, rfl⟩ := grow_of_below hb_; clear hb_) | (go_at_call 14; refine (gcd_eq nco.out _ (fits_of (by omega) (by omega)) (fits_of (by omega) (by omega))).mono ?_; rintro e w' ⟨rfl, hb_⟩; obtain ⟨p, rfl⟩ := grow_of_below hb_; clear hb_) | (go_at_call 15; refine (cmpr_eq rfl _ (fits_of (by omega) (by omega)) (fits_of (by omega) (by omega)) (fits_of (by omega) (by omega)) (fits_of (by omega) (by omega))).mono ?_; rintro e w' ⟨rfl, hb_⟩; obtain ⟨p, rfl⟩ := grow_of_below hb_; clear hb_) | (go_at_call 13; refine (done_eq (hE.up (by repeat' (first | with_reducible exact Below.refl _ _ | with_reducible exact Nat.le_refl _ | with_reducible assumption | with_reducible refine Go.below_growBy' ?_ ?_ _ | with_reducible refine Below.alloc ?_ ?_ _ | with_reducible refine Below.setCell ?_ ?_ _ | with_reducible refine Below.drew ?_ | with_reducible refine Go.le_alloc ?_ | with_reducible refine Go.le_growBy ?_ | with_reducible refine Go.le_setCell ?_ | with_reducible refine Go.le_drew ?_ | omega | (dsimp only; omega))) (by repeat' (first | with_reducible exact Below.refl _ _ | with_reducible exact Nat.le_refl _ | with_reducible assumption | with_reducible refine Go.below_growBy' ?_ ?_ _ | with_reducible refine Below.alloc ?_ ?_ _ | with_reducible refine Below.setCell ?_ ?_ _ | with_reducible refine Below.drew ?_ | with_reducible refine Go.le_alloc ?_ | with_reducible refine Go.le_growBy ?_ | with_reducible refine Go.le_setCell ?_ | with_reducible refine Go.le_drew ?_ | omega | (dsimp only; omega)))) hdn.out).mono ?_; rintro e w' ⟨rfl, hb_⟩; obtain ⟨p, rfl⟩ := grow_of_below hb_; clear hb_))
          go_ret
          exact ⟨by first | rfl | (simp; done), (by repeat' (first | with_reducible exact Below.refl _ _ | with_reducible exact Nat.le_refl _ | with_reducible assumption | with_reducible refine Go.below_growBy' ?_ ?_ _ | with_reducible refine Below.alloc ?_ ?_ _ | with_reducible refine Below.setCell ?_ ?_ _ | with_reducible refine Below.drew ?_ | with_reducible refine Go.le_alloc ?_ | with_reducible refine Go.le_growBy ?_ | with_reducible refine Go.le_setCell ?_ | with_reducible refine Go.le_drew ?_ | omega | (dsimp only; omega)))⟩
        · have hd2 := Lib.hid hd2
          have hcm := Lib.hid hcm
          go_wp2_with (first | (go_at_call 11; refine (doing_eq (fits_of (by omega) (by omega)) (hE.up (by repeat' (first | with_reducible exact Below.refl _ _ | with_reducible exact Nat.le_refl _ | with_reducible assumption | with_reducible refine Go.below_growBy' ?_ ?_ _ | with_reducible refine Below.alloc ?_ ?_ _ | with_reducible refine Below.setCell ?_ ?_ _ | with_reducible refine Below.drew ?_ | with_reducible refine Go.le_alloc ?_ | with_reducible refine Go.le_growBy ?_ | with_reducible refine Go.le_setCell ?_ | with_reducible refine Go.le_drew ?_ | omega | (dsimp only; omega))) (by repeat' (first | with_reducible exact Below.refl _ _ | with_reducible exact Nat.le_refl _ | with_reducible assumption | with_reducible refine Go.below_growBy' ?_ ?_ _ | with_reducible refine Below.alloc ?_ ?_ _ | with_reducible refine Below.setCell ?_ ?_ _ | with_reducible refine Below.drew ?_ | with_reducible refine Go.le_alloc ?_ | with_reducible refine Go.le_growBy ?_ | with_reducible refine Go.le_setCell ?_ | with_reducible refine Go.le_drew ?_ | omega | (dsimp only; omega)))) (by first | with_reducible exact hnb.out | with_reducible exact hd1.out | with_reducible exact hd2.out)).mono ?_; rintro e w' ⟨rfl, hb_⟩; obtain ⟨p, rfl⟩ := grow_of_below hb_; clear hb_) | (go_at_call 14; refine (gcd_eq nco.out _ (fits_of (by omega) (by omega)) (fits_of (by omega) (by omega))).mono ?_; rintro e w' ⟨rfl, hb_⟩; obtain ⟨p, rfl⟩ := grow_of_below hb_; clear hb_) | (go_at_call 15; refine (cmpr_eq hcm.out _ (fits_of (by omega) (by omega)) (fits_of (by omega) (by omega)) (fits_of (by omega) (by omega)) (fits_of (by omega) (by omega))).mono ?_; rintro e w' ⟨rfl, hb_⟩; obtain ⟨p, rfl⟩ := grow_of_below hb_; clear hb_) | (go_at_call 13; refine (done_eq (hE.up (by repeat' (first | with_reducible exact Below.refl _ _ | with_reducible exact Nat.le_refl _ | with_reducible assumption | with_reducible refine Go.below_growBy' ?_ ?_ _ | with_reducible refine Below.alloc ?_ ?_ _ | with_reducible refine Below.setCell ?_ ?_ _ | with_reducible refine Below.drew ?_ | with_reducible refine Go.le_alloc ?_ | with_reducible refine Go.le_growBy ?_ | with_reducible refine Go.le_setCell ?_ | with_reducible refine Go.le_drew ?_ | omega | (dsimp only; omega))) (by repeat' (first | with_reducible exact Below.refl _ _ | with_reducible exact Nat.le_refl _ | with_reducible assumption | with_reducible refine Go.below_growBy' ?_ ?_ _ | with_reducible refine Below.alloc ?_ ?_ _ | with_reducible refine Below.setCell ?_ ?_ _ | with_reducible refine Below.drew ?_ | with_reducible refine Go.le_alloc ?_ | with_reducible refine Go.le_growBy ?_ | with_reducible refine Go.le_setCell ?_ | with_reducible refine Go.le_drew ?_ | omega | (dsimp only; omega)))) rfl).mono ?_; rintro e w' ⟨rfl, hb_⟩; obtain ⟨p, rfl⟩ := grow_of_below hb_; clear hb_))
          go_ret
          exact ⟨by first | rfl | (simp; done), (by repeat' (first | with_reducible exact Below.refl _ _ | with_reducible exact Nat.le_refl _ | with_reducible assumption | with_reducible refine Go.below_growBy' ?_ ?_ _ | with_reducible refine Below.alloc ?_ ?_ _ | with_reducible refine Below.setCell ?_ ?_ _ | with_reducible refine Below.drew ?_ | with_reducible refine Go.le_alloc ?_ | with_reducible refine Go.le_growBy ?_ | with_reducible refine Go.le_setCell ?_ | with_reducible refine Go.le_drew ?_ | omega | (dsimp only; omega)))⟩
end Go.Proofs.Ytfcmmclialeepaa
namespace Go.Proofs.Ytfcmmclialeepaa.spanFractions
open Go.ChangeShapes Go.WideShapes Go.ChangeAt Go.RowKit
set_option linter.unusedVariables false

theorem own : ownKnob Try.prog.godebug = none := by kernel_rfl
theorem laidOut : laidOutB Try.prog = true := by kernel_rfl

theorem walk {H : Type} {enc : TypeId × Value → H} {ds : List (DataW H)} {before : List MemPlace} (W : World) (base : Nat) (args : Array Value) (hval : ∀ (j : Nat) t v, Try.f5.params[j]? = some t → args[j]? = some v → Value.okWide Try.prog W .any base t v) (hsz : args.toList.length = 3) (hwh : DataW.Whole enc Try.prog Try.f5.params.toList [] false W args.toList ds [] before) :
    Calls Try.prog 5 args W fun e W' => e = .returned (.bool true) ∧ Below W.heap.size W W' := by
  obtain ⟨v0, v1, v2, rfl⟩ : ∃ v0 v1 v2, args = #[v0, v1, v2] := by
    match args, hsz with
    | ⟨[v0, v1, v2]⟩, _ => exact ⟨v0, v1, v2, rfl⟩
  obtain ⟨n, rfl, hn⟩ := okWide_int_has Try.underlying5 (hval 1 5 v1 rfl rfl)
  obtain ⟨m, rfl, hm⟩ := okWide_int_has Try.underlying44 (hval 2 44 v2 rfl rfl)
  obtain ⟨p, q, hA, -⟩ := hwh
  obtain ⟨a, len, cap, rfl, hI⟩ := ints_arg (t := 29) Try.underlying29 Try.underlying3 (by kernel_rfl) (okWide_slice Try.underlying29 (hval 0 29 v0 rfl rfl)) (trodAll_head hA)
  obtain ⟨n0, n1⟩ := hn
  obtain ⟨m0, m1⟩ := hm
  exact fractions_law a len cap n m W hI n0 n1 m0 m1

set_option maxRecDepth 100000 in
theorem lifted (os : Os) (started : os.Started) (H : Type) (enc : TypeId × Value → H) :
    ReturnsInHanded {} Try.checked os 5 .any (Rows.spanFractionsSpec.pre6 enc Try.prog Try.f5 Rows.spanFractionsRow.domain false) (Rows.spanFractionsSpec.post enc Try.prog Try.f5 false true false false) := by
  refine returnsInHanded_of_change (C := Try.checked) own started (by kernel_rfl) Try.func5
    (ChangeSpec.witness6 (enc := enc) (C := Try.checked) false ⟨#[], #[.slice none 0 0, .int .u8 0, .int .u32 0], []⟩ 8 (by kernel_rfl) (by kernel_rfl) (by kernel_rfl) (by kernel_rfl)) ?_
  intro W base args ds gs before hval0 hW hcnd _
  exact law_calls 4 laidOut (by kernel_rfl) rfl rfl Try.underlying4 (fun ds h => match ds, h with | [_, _, _], _ => rfl) hW (fun hsz hwh => walk W base args hval0 hsz hwh)

theorem over : Rows.spanFractionsRow.holds Try.pinned (OpenSpec.ofChange Rows.spanFractionsSpec) :=
  OpenClaim.holds_of_wide 5 Try.f5 rfl rfl rfl rfl rfl rfl rfl ⟨rfl, rfl, rfl, rfl, rfl⟩ rfl rfl rfl rfl rfl (by kernel_rfl) Try.func5 (by kernel_rfl)
    (of_decide_eq_true (by kernel_rfl)) (by unfold Func.isWrapper; first | (rw [if_pos (by decide +kernel)]; kernel_rfl) | (rw [if_neg (by decide +kernel)]; exact ⟨rfl, rfl⟩))
    (fun os started H enc _ => lifted os started H enc)

theorem proved : Rows.SpanFractionsSaid := over
#print axioms proved
end Go.Proofs.Ytfcmmclialeepaa.spanFractions

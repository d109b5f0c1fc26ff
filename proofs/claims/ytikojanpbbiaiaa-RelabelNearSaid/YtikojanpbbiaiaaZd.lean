/-
  Chapter 24: label.Limit and relabel.near of two labels.
-/
import Derived.Test.YtikojanpbbiaiaaZc
import Derived.Shelf.Abstract
import Derived.Lib.SliceRun
namespace Go.Proofs.Ytikojanpbbiaiaa
set_option linter.unusedVariables false
set_option linter.unusedSimpArgs false
open Go.RowKit Go.Shelf
attribute [local go_sem] Oper.semAt_some
attribute [local go_sem ↓] Go.wp_at_zero Go.wp_at_succ

/-- the closure of point.within at 16384 -/
theorem wclos_any (x : Int) (b : Nat) (w : World) (hc : w.cell? ⟨b, 0, none⟩ = some (.int .i64 16384)) :
    Calls Try.prog 101 #[.int .i64 x, .pointer (some ⟨b, 0, none⟩)] w fun e w' => e = .returned (.bool (!(decide (-16384 ≤ x) && decide (x ≤ 16384)))) ∧ ∃ q, w' = w.drewN q := by
  go_enter Try.func101, Try.ntmps101
  by_cases h1 : x < -16384
  · go_wp2_with fail
    go_ret
    exact ⟨by simp; omega, 0, rfl⟩
  · by_cases h2 : 16384 < x
    · go_wp2_with fail
      go_ret
      exact ⟨by simp; omega, 0, rfl⟩
    · go_wp2_with fail
      go_ret
      exact ⟨by simp <;> omega, 0, rfl⟩

theorem predIn (b : Nat) (w : World) (hb : b < w.heap.size) (hc : w.cell? ⟨b, 0, none⟩ = some (.int .i64 16384)) :
    PredAt Try.prog 101 #[.pointer (some ⟨b, 0, none⟩)] (Value.int .i64) (fun x => !(decide (-16384 ≤ x) && decide (x ≤ 16384))) w := fun W x h =>
  wclos_any x b W ((h.cell (p := ⟨b, 0, none⟩) hb).trans hc)

/-- point.within at 16384 and two numbers -/
theorem pwithin_any (x y : Int) (b : Nat) (w : World) (h0 : w.cell? ⟨b, 0, none⟩ = some (.int .i64 x)) (h1 : w.cell? ⟨b, 1, none⟩ = some (.int .i64 y)) :
    Calls Try.prog 87 #[.int .i64 16384, .slice (some ⟨b, 0, none⟩) 2 2] w fun e w' => e = .returned (.bool (rightL x y)) ∧ Below w.heap.size w w' := by
  have hl0 := World.block_lt_of_cell? _ _ h0
  have e63 : ∀ args w, (callFunc 101 args).run Try.prog w = .ok (.enter 101 args) w := enters_of Try.func101 (by kernel_rfl) rfl
  have hcon := Go.Proofs.Try.slices_ContainsFunc (Value.int .i64) (fun x => !(decide (-16384 ≤ x) && decide (x ≤ 16384))) 101 #[.pointer (some ⟨w.heap.size, 0, none⟩)] e63 b 0 2 2 [x, y] (w.alloc (.cells #[.int .i64 16384] 3))
    (predIn w.heap.size _ (by simp) (by simp)) (Nat.le_refl 2) (by omega) (fun j hj => by
      refine Lib.cell?_alloc_some _ ?_
      match j, hj with
      | 0, _ => exact h0
      | 1, _ => exact h1)
  have hr : (([x, y].take 2).any fun x => !(decide (-16384 ≤ x) && decide (x ≤ 16384))) = !rightL x y := by simp [rightL]
  rw [hr] at hcon
  clear hr
  generalize hg : rightL x y = r at hcon ⊢
  clear hg
  go_enter Try.func87, Try.ntmps87
  go_wp2_with (go_at_call 100; refine hcon.mono ?_; rintro e w' ⟨rfl, q, rfl⟩)
  go_ret
  exact ⟨by simp, below_drewN' ((Below.refl _ w).alloc (Nat.le_refl _) _) q⟩

/-- point.Right -/
theorem right_any (x y : Int) (w : World) :
    Calls Try.prog 68 #[.agg #[.int .i64 x, .int .i64 y]] w fun e w' => e = .returned (.bool (rightL x y)) ∧ Below w.heap.size w w' := by
  go_enter Try.func68, Try.ntmps68
  go_wp2_with (go_at_call 87; refine (pwithin_any x y _ _ (by simp) (by simp)).mono ?_; rintro e w' ⟨rfl, hb_⟩; obtain ⟨p, rfl⟩ := grow_of_below hb_; clear hb_)
  go_ret
  exact ⟨rfl, (by repeat' (first | with_reducible exact Below.refl _ _ | with_reducible exact Nat.le_refl _ | with_reducible assumption | with_reducible refine Go.below_growBy' ?_ ?_ _ | with_reducible refine Below.alloc ?_ ?_ _ | with_reducible refine Below.setCell ?_ ?_ _ | with_reducible refine Below.drew ?_ | with_reducible refine Go.le_alloc ?_ | with_reducible refine Go.le_growBy ?_ | with_reducible refine Go.le_setCell ?_ | with_reducible refine Go.le_drew ?_ | omega | (dsimp only; omega)))⟩
set_option maxRecDepth 100000 in
theorem sub_any (ax ay bx by_ : Int) (w : World) : Calls Try.prog 66 #[.agg #[.int .i64 ax, .int .i64 ay], .agg #[.int .i64 bx, .int .i64 by_]] w fun e w' => e = .returned (.agg #[.int .i64 (wrap64 (ax - bx)), .int .i64 (wrap64 (ay - by_))]) ∧ Below w.heap.size w w' := by
  go_enter Try.func66, Try.ntmps66
  go_wp2_with fail
  have hk := Blk.new ((w.alloc (.cells #[.int .i64 ax, .int .i64 ay] 37)).alloc (.cells #[.int .i64 bx, .int .i64 by_] 37)) #[.int .i64 (wrap64 (ax - bx)), .int .i64 (wrap64 (ay - by_))] 37
  simp only [World.size_alloc] at hk
  exact bodyPost_ret (results_cell_row (by rfl) _ _ _ 37 _ (0, 0) _ (by rfl) hk Try.underlying37 (by rfl) (by kernel_rfl)) rfl ⟨rfl, (by repeat' (first | with_reducible exact Below.refl _ _ | with_reducible exact Nat.le_refl _ | with_reducible assumption | with_reducible refine Go.below_growBy' ?_ ?_ _ | with_reducible refine Below.alloc ?_ ?_ _ | with_reducible refine Below.setCell ?_ ?_ _ | with_reducible refine Below.drew ?_ | with_reducible refine Go.le_alloc ?_ | with_reducible refine Go.le_growBy ?_ | with_reducible refine Go.le_setCell ?_ | with_reducible refine Go.le_drew ?_ | omega | (dsimp only; omega)))⟩
theorem dot_any (ax ay bx by_ : Int) (w : World) : Calls Try.prog 67 #[.agg #[.int .i64 ax, .int .i64 ay], .agg #[.int .i64 bx, .int .i64 by_]] w fun e w' => e = .returned (.int .i64 (wrap64 (wrap64 (ax * bx) + wrap64 (ay * by_)))) ∧ Below w.heap.size w w' := by
  go_enter Try.func67, Try.ntmps67
  go_wp2_with fail
  go_ret
  exact ⟨rfl, (by repeat' (first | with_reducible exact Below.refl _ _ | with_reducible exact Nat.le_refl _ | with_reducible assumption | with_reducible refine Go.below_growBy' ?_ ?_ _ | with_reducible refine Below.alloc ?_ ?_ _ | with_reducible refine Below.setCell ?_ ?_ _ | with_reducible refine Below.drew ?_ | with_reducible refine Go.le_alloc ?_ | with_reducible refine Go.le_growBy ?_ | with_reducible refine Go.le_setCell ?_ | with_reducible refine Go.le_drew ?_ | omega | (dsimp only; omega)))⟩
theorem radii_any (a b : Lb) (w : World) : Calls Try.prog 32 #[lbV a, lbV b] w fun e w' => e = .returned (.int .i64 (radL a b)) ∧ Below w.heap.size w w' := by
  obtain ⟨i, x, y, r, t, u⟩ := a
  obtain ⟨i2, x2, y2, r2, t2, u2⟩ := b
  have hs : min (max r 0) 1000 + min (max r2 0) 1000 = radL ⟨i, x, y, r, t, u⟩ ⟨i2, x2, y2, r2, t2, u2⟩ := rfl
  have hw : wrap64 (min (max r 0) 1000 + min (max r2 0) 1000) = min (max r 0) 1000 + min (max r2 0) 1000 := Go.IntWalk.wrap64_in _ ⟨by omega, by omega⟩
  rw [← hs]
  clear hs
  go_enter Try.func32, Try.ntmps32
  go_wp2_with fail
  all_goals
    go_ret
    exact ⟨by first | rfl | rw [hw], (by repeat' (first | with_reducible exact Below.refl _ _ | with_reducible exact Nat.le_refl _ | with_reducible assumption | with_reducible refine Go.below_growBy' ?_ ?_ _ | with_reducible refine Below.alloc ?_ ?_ _ | with_reducible refine Below.setCell ?_ ?_ _ | with_reducible refine Below.drew ?_ | with_reducible refine Go.le_alloc ?_ | with_reducible refine Go.le_growBy ?_ | with_reducible refine Go.le_setCell ?_ | with_reducible refine Go.le_drew ?_ | omega | (dsimp only; omega)))⟩
set_option maxRecDepth 100000 in
set_option maxHeartbeats 2000000 in
/-- the square of the distance, or any number where a point is not right -/
theorem apart_any (a b : Lb) (w : World) : Calls Try.prog 31 #[lbV a, lbV b] w fun e w' => ∃ n : Int, e = .returned (.tuple #[.int .i64 n, .bool (rightL a.x a.y && rightL b.x b.y)]) ∧ ((rightL a.x a.y && rightL b.x b.y) = true → n = sqL a b) ∧ Below w.heap.size w w' := by
  have hn : (rightL a.x a.y && rightL b.x b.y) = true → wrap64 (wrap64 (wrap64 (a.x - b.x) * wrap64 (a.x - b.x)) + wrap64 (wrap64 (a.y - b.y) * wrap64 (a.y - b.y))) = sqL a b := by
    intro hab
    simp only [Bool.and_eq_true] at hab
    obtain ⟨ha, hb⟩ := hab
    have hsq := sq_in ha hb
    have h1 : 0 ≤ (a.x - b.x) * (a.x - b.x) := by
      rcases Int.le_total 0 (a.x - b.x) with h | h
      · exact Int.mul_nonneg h h
      · rw [← Int.neg_mul_neg]; exact Int.mul_nonneg (by omega) (by omega)
    have h2 : 0 ≤ (a.y - b.y) * (a.y - b.y) := by
      rcases Int.le_total 0 (a.y - b.y) with h | h
      · exact Int.mul_nonneg h h
      · rw [← Int.neg_mul_neg]; exact Int.mul_nonneg (by omega) (by omega)
    unfold rightL at ha hb
    simp only [Bool.and_eq_true, decide_eq_true_eq] at ha hb
    have h3 : sqL a b = (a.x - b.x) * (a.x - b.x) + (a.y - b.y) * (a.y - b.y) := rfl
    rw [Go.IntWalk.wrap64_in (a.x - b.x) ⟨by omega, by omega⟩, Go.IntWalk.wrap64_in (a.y - b.y) ⟨by omega, by omega⟩, Go.IntWalk.wrap64_in ((a.x - b.x) * (a.x - b.x)) ⟨by omega, by omega⟩, Go.IntWalk.wrap64_in ((a.y - b.y) * (a.y - b.y)) ⟨by omega, by omega⟩, Go.IntWalk.wrap64_in _ ⟨by omega, by omega⟩, h3]
  obtain ⟨i, x, y, r, t, u⟩ := a
  obtain ⟨i2, x2, y2, r2, t2, u2⟩ := b
  simp only at hn ⊢
  have c1 := right_any x y
  have c2 := right_any x2 y2
  have c3 := sub_any x y x2 y2
  have c4 := dot_any (wrap64 (x - x2)) (wrap64 (y - y2)) (wrap64 (x - x2)) (wrap64 (y - y2))
  generalize wrap64 (x - x2) = dx at *
  generalize wrap64 (y - y2) = dy at *
  generalize rightL x y = q1 at *
  generalize rightL x2 y2 = q2 at *
  generalize wrap64 (wrap64 (dx * dx) + wrap64 (dy * dy)) = n at *
  generalize sqL _ _ = sq at *
  replace hn := Lib.hid hn
  go_enter Try.func31, Try.ntmps31
  cases q1
  all_goals
    go_wp2_with (first
      | (go_at_call 66; (with_reducible refine (c3 _).mono ?_); rintro e w' ⟨rfl, hb_⟩; obtain ⟨p3, rfl⟩ := grow_of_below hb_; clear hb_)
      | fail)
    first | with_reducible refine wp_region_grow2 (by kernel_rfl) (by kernel_rfl) ?_ | with_reducible refine wp_region_grow (by kernel_rfl) (by kernel_rfl) ?_
    repeat (first | go_big_quiet_step (first | (go_at_call 68; exact Calls.grow_of (c1 _)) | (go_at_call 68; exact Calls.grow_of (c2 _)) | (go_at_call 67; exact Calls.grow_of (c4 _))) | quiet_step (first | (go_at_call 68; exact Calls.grow_of (c1 _)) | (go_at_call 68; exact Calls.grow_of (c2 _)) | (go_at_call 67; exact Calls.grow_of (c4 _))))
    refine wpQuiet_nil ?_
    intro _ hw_
    obtain ⟨p, hw_⟩ := hw_
    subst hw_
    go_wp2_with fail
    go_ret2
    exact ⟨_, by first | rfl | simp, hn.out, (by repeat' (first | with_reducible exact Below.refl _ _ | with_reducible exact Nat.le_refl _ | with_reducible assumption | with_reducible refine Go.below_growBy' ?_ ?_ _ | with_reducible refine Below.alloc ?_ ?_ _ | with_reducible refine Below.setCell ?_ ?_ _ | with_reducible refine Below.drew ?_ | with_reducible refine Go.le_alloc ?_ | with_reducible refine Go.le_growBy ?_ | with_reducible refine Go.le_setCell ?_ | with_reducible refine Go.le_drew ?_ | omega | (dsimp only; omega)))⟩
set_option maxRecDepth 100000 in
theorem lim_root {sq q : Int} (h0 : 0 ≤ sq) (hq : 0 < q) : min (root (sq.tdiv q)) 1024 = (upZ sq q 1024 : Nat) := by
  rw [Int.tdiv_eq_ediv_of_nonneg h0]
  have hn : 0 ≤ sq / q := Int.ediv_nonneg h0 (by omega)
  obtain ⟨r0, r1, r2, r3⟩ := root_is hn
  obtain ⟨s, hs⟩ : ∃ s, root (sq / q) = s := ⟨_, rfl⟩
  rw [hs] at r0 r1 r2 r3 ⊢
  obtain ⟨z, hz⟩ := Int.eq_ofNat_of_zero_le (show 0 ≤ min s 1024 by omega)
  rw [hz]
  congr 1
  refine (upZ_eq sq q (by omega) 1024 z (by omega) (.inr ?_) ?_).symm
  · have : (z : Int) * z ≤ s * s := Int.mul_le_mul (by omega) (by omega) (by omega) (by omega)
    have h2 : (z : Int) * z ≤ sq / q := by omega
    exact (Int.le_ediv_iff_mul_le hq).1 h2
  · by_cases h : z = 1024
    · exact .inl h
    · right
      intro hc
      have h2 := (Int.le_ediv_iff_mul_le hq).2 hc
      have : (z : Int) = s := by omega
      push_cast at h2
      rw [this] at h2
      omega
theorem upZ_zero {sq : Int} (h0 : 0 ≤ sq) : upZ sq 0 1024 = 1024 := upZ_eq sq 0 (by omega) 1024 1024 (Nat.le_refl _) (.inr (by simpa using h0)) (.inl rfl)
set_option maxHeartbeats 1000000 in
theorem limit_any (a b : Lb) (w : World) : Calls Try.prog 11 #[lbV a, lbV b] w fun e w' => e = .returned (.int .i64 (limL a b : Nat)) ∧ Below w.heap.size w w' := by
  have c1 := apart_any a b
  have c2 := radii_any a b
  by_cases h : (rightL a.x a.y && rightL b.x b.y) = true
  · have hl : limL a b = upZ (sqL a b) (radL a b * radL a b) 1024 := by unfold limL; rw [if_pos h]
    have h2 := h
    simp only [Bool.and_eq_true] at h2
    obtain ⟨s0, s1⟩ := sq_in h2.1 h2.2
    obtain ⟨r0, r1⟩ := radL_in a b
    rw [h] at c1
    obtain ⟨i, x, y, r, t, u⟩ := a
    obtain ⟨i2, x2, y2, r2, t2, u2⟩ := b
    rw [hl]
    generalize sqL _ _ = sq at *
    generalize radL _ _ = rd at *
    clear h2 h hl
    by_cases hr : rd = 0
    · subst hr
      have hz := upZ_zero s0
      rw [Int.mul_zero, hz]
      clear hz s0 s1 r0 r1
      go_enter Try.func11, Try.ntmps11
      go_wp2_with (first
        | (go_at_call 31; (with_reducible refine (c1 _).mono ?_); rintro e w' ⟨n, rfl, hn_, hb_⟩; obtain ⟨p1, rfl⟩ := grow_of_below hb_; clear hb_; obtain rfl := hn_ rfl)
        | (go_at_call 32; (with_reducible refine (c2 _).mono ?_); rintro e w' ⟨rfl, hb_⟩; obtain ⟨p2, rfl⟩ := grow_of_below hb_; clear hb_)
        | fail)
      go_ret
      exact ⟨rfl, (by repeat' (first | with_reducible exact Below.refl _ _ | with_reducible exact Nat.le_refl _ | with_reducible assumption | with_reducible refine Go.below_growBy' ?_ ?_ _ | with_reducible refine Below.alloc ?_ ?_ _ | with_reducible refine Below.setCell ?_ ?_ _ | with_reducible refine Below.drew ?_ | with_reducible refine Go.le_alloc ?_ | with_reducible refine Go.le_growBy ?_ | with_reducible refine Go.le_setCell ?_ | with_reducible refine Go.le_drew ?_ | omega | (dsimp only; omega)))⟩
    · have q0 : 0 < rd * rd := Int.mul_pos (by omega) (by omega)
      have q1 : rd * rd ≤ 4000000 := by have := Int.mul_le_mul r1 r1 r0 (by decide); omega
      have hz := lim_root s0 q0
      obtain ⟨q, hq⟩ : ∃ q, rd * rd = q := ⟨_, rfl⟩
      rw [hq] at q0 q1 hz ⊢
      have hd0 : 0 ≤ sq.tdiv q := Int.tdiv_nonneg s0 (by omega)
      have hd1 : sq.tdiv q ≤ 2147483648 := by
        rw [Int.tdiv_eq_ediv_of_nonneg s0]
        have := Int.ediv_le_self (b := q) s0
        omega
      have c3 := fun w => sqrt_any (sq.tdiv q) w ⟨by omega, by omega⟩
      have hq0 : ¬ q = 0 := by omega
      have hw : wrap64 q = q := Go.IntWalk.wrap64_in _ ⟨by omega, by omega⟩
      obtain ⟨d, hd⟩ : ∃ d, sq.tdiv q = d := ⟨_, rfl⟩
      rw [hd] at c3 hd0 hd1 hz
      obtain ⟨rt, hrt⟩ : ∃ rt, root d = rt := ⟨_, rfl⟩
      rw [hrt] at c3 hz
      rw [← hz]
      replace hz := Lib.hid hz
      clear r1 hrt s0
      go_enter Try.func11, Try.ntmps11
      go_wp2_with (first
        | (go_at_call 31; (with_reducible refine (c1 _).mono ?_); rintro e w' ⟨n, rfl, hn_, hb_⟩; obtain ⟨p1, rfl⟩ := grow_of_below hb_; clear hb_; obtain rfl := hn_ rfl)
        | (go_at_call 32; (with_reducible refine (c2 _).mono ?_); rintro e w' ⟨rfl, hb_⟩; obtain ⟨p2, rfl⟩ := grow_of_below hb_; clear hb_)
        | (go_at_call 33; (with_reducible refine (c3 _).mono ?_); rintro e w' ⟨rfl, hb_⟩; obtain ⟨p3, rfl⟩ := grow_of_below hb_; clear hb_)
        | fail)
      go_ret
      exact ⟨rfl, (by repeat' (first | with_reducible exact Below.refl _ _ | with_reducible exact Nat.le_refl _ | with_reducible assumption | with_reducible refine Go.below_growBy' ?_ ?_ _ | with_reducible refine Below.alloc ?_ ?_ _ | with_reducible refine Below.setCell ?_ ?_ _ | with_reducible refine Below.drew ?_ | with_reducible refine Go.le_alloc ?_ | with_reducible refine Go.le_growBy ?_ | with_reducible refine Go.le_setCell ?_ | with_reducible refine Go.le_drew ?_ | omega | (dsimp only; omega)))⟩
  · have hf : (rightL a.x a.y && rightL b.x b.y) = false := by simpa using h
    have hl : limL a b = 0 := by unfold limL; rw [if_neg h]
    rw [hf] at c1
    obtain ⟨i, x, y, r, t, u⟩ := a
    obtain ⟨i2, x2, y2, r2, t2, u2⟩ := b
    rw [hl]
    generalize radL _ _ = rd at *
    clear h hf hl
    go_enter Try.func11, Try.ntmps11
    go_wp2_with (first
        | (go_at_call 31; (with_reducible refine (c1 _).mono ?_); rintro e w' ⟨n, rfl, hn_, hb_⟩; obtain ⟨p1, rfl⟩ := grow_of_below hb_; clear hb_ hn_)
        | (go_at_call 32; (with_reducible refine (c2 _).mono ?_); rintro e w' ⟨rfl, hb_⟩; obtain ⟨p2, rfl⟩ := grow_of_below hb_; clear hb_)
        | fail)
    go_ret
    exact ⟨rfl, (by repeat' (first | with_reducible exact Below.refl _ _ | with_reducible exact Nat.le_refl _ | with_reducible assumption | with_reducible refine Go.below_growBy' ?_ ?_ _ | with_reducible refine Below.alloc ?_ ?_ _ | with_reducible refine Below.setCell ?_ ?_ _ | with_reducible refine Below.drew ?_ | with_reducible refine Go.le_alloc ?_ | with_reducible refine Go.le_growBy ?_ | with_reducible refine Go.le_setCell ?_ | with_reducible refine Go.le_drew ?_ | omega | (dsimp only; omega)))⟩
theorem near_any (a b : Lb) (w : World) : Calls Try.prog 65 #[lbV a, lbV b] w fun e w' => e = .returned (.bool (nearL a b)) ∧ Below w.heap.size w w' := by
  have c1 := limit_any a b
  have hn : nearL a b = decide (((limL a b : Nat) : Int) < 1024) := by unfold nearL; congr 1; exact propext ⟨fun h => by omega, fun h => by omega⟩
  rw [hn]
  generalize limL a b = z at *
  obtain ⟨i, x, y, r, t, u⟩ := a
  obtain ⟨i2, x2, y2, r2, t2, u2⟩ := b
  clear hn
  go_enter Try.func65, Try.ntmps65
  go_wp2_with (first
      | (go_at_call 11; (with_reducible refine (c1 _).mono ?_); rintro e w' ⟨rfl, hb_⟩; obtain ⟨p1, rfl⟩ := grow_of_below hb_; clear hb_)
      | fail)
  all_goals
    go_ret
    exact ⟨by first | rfl | simp_all, (by repeat' (first | with_reducible exact Below.refl _ _ | with_reducible exact Nat.le_refl _ | with_reducible assumption | with_reducible refine Go.below_growBy' ?_ ?_ _ | with_reducible refine Below.alloc ?_ ?_ _ | with_reducible refine Below.setCell ?_ ?_ _ | with_reducible refine Below.drew ?_ | with_reducible refine Go.le_alloc ?_ | with_reducible refine Go.le_growBy ?_ | with_reducible refine Go.le_setCell ?_ | with_reducible refine Go.le_drew ?_ | omega | (dsimp only; omega)))⟩
end Go.Proofs.Ytikojanpbbiaiaa

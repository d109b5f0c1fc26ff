/-
  Chapter 29: the dot of a point (of, on, Of).
-/
import Derived.Test.YtjfdbigkbgolmaaDoorG2
namespace Go.Proofs.YtjfdbigkbgolmaaDoor
set_option linter.unusedVariables false
set_option linter.unusedSimpArgs false
open Go.RowKit Go.Shelf
attribute [local go_sem] Oper.semAt_some

def dotX (s : Sh) (x : Int) : Int := (x - s.ax) / s.st
def dotY (s : Sh) (y : Int) : Int := (y - s.ay) / s.st
def onS (s : Sh) (i j : Int) : Bool := inR 0 i (s.w - 1) && inR 0 j (s.h - 1)

/-- a sheet that Check accepts -/
structure OkS (s : Sh) : Prop where
  st0 : 1 ≤ s.st
  st1 : s.st ≤ 1024
  w0 : 1 ≤ s.w
  w1 : s.w ≤ 80
  h0 : 1 ≤ s.h
  h1 : s.h ≤ 80
  x0 : -16384 ≤ s.ax
  x1 : s.ax ≤ 16384
  y0 : -16384 ≤ s.ay
  y1 : s.ay ≤ 16384
theorem rightP_iff {x y : Int} : rightP x y = true ↔ (-16384 ≤ x ∧ x ≤ 16384) ∧ -16384 ≤ y ∧ y ≤ 16384 := by simp [rightP]
theorem okS_of {s : Sh} (h : checkS s = 0) : OkS s := by
  unfold checkS at h
  split at h
  · rename_i h1
    split at h
    · rename_i h2
      simp only [Bool.and_eq_true, inR_iff, rightP_iff] at h1 h2
      exact ⟨by omega, by omega, by omega, by omega, by omega, by omega, by omega, by omega, by omega, by omega⟩
    · omega
  · omega

theorem floor_eq {a b r : Int} (hr : a / b = r) (w : World) (hb : 0 < b) (h0 : -4611686018427387904 ≤ a) (h1 : a ≤ 4611686018427387904) :
    Calls Tryd.prog 43 #[.int .i64 a, .int .i64 b] w fun e w' => e = .returned (.int .i64 r) ∧ w = w' := by
  have h := floor_any a b w hb h0 h1
  rw [hr] at h
  exact h

set_option maxRecDepth 100000 in
set_option maxHeartbeats 1000000 in
theorem of_any (s : Sh) (x y i j : Int) (w : World) (hi : dotX s x = i) (hj : dotY s y = j) (hs : OkS s) (x0 : -1048576 ≤ x) (x1 : x ≤ 1048576) (y0 : -1048576 ≤ y) (y1 : y ≤ 1048576) :
    Calls Tryd.prog 26 #[shV s, .agg #[.int .i64 x, .int .i64 y]] w fun e w' => e = .returned (.agg #[.int .i64 i, .int .i64 j]) ∧ Below w.heap.size w w' := by
  obtain ⟨ax, ay, st, W, H, G⟩ := s
  obtain ⟨s0, s1, -, -, -, -, a0, a1, b0, b1⟩ := hs
  simp only [dotX, dotY] at hi hj s0 s1 a0 a1 b0 b1
  replace hi := Lib.hid hi
  replace hj := Lib.hid hj
  go_enter Tryd.func26, Tryd.ntmps26
  go_wp2_with fail
  first | with_reducible refine wp_region_grow_tail2 19 (by kernel_rfl) (by kernel_rfl) ?_ | with_reducible refine wp_region_grow_tail 19 (by kernel_rfl) (by kernel_rfl) ?_
  simp only [List.take_succ_cons, List.take_zero, List.drop_succ_cons, List.drop_zero]
  repeat (first | go_big_quiet_step ((go_at_call 43; exact Calls.grow_of_same (floor_eq (by first | with_reducible exact hi.out | with_reducible exact hj.out) _ (by omega) (by omega) (by omega)))) | quiet_step ((go_at_call 43; exact Calls.grow_of_same (floor_eq (by first | with_reducible exact hi.out | with_reducible exact hj.out) _ (by omega) (by omega) (by omega)))))
  refine wpQuiet_nil ?_
  intro _ hw_
  obtain ⟨p, hw_⟩ := hw_
  subst hw_
  go_wp2_with fail
  exact bodyPost_ret (v := .agg #[.int .i64 i, .int .i64 j]) (by simp [results, Tryd.results26, go_sem]) rfl ⟨rfl, (by repeat' (first | with_reducible exact Below.refl _ _ | with_reducible exact Nat.le_refl _ | with_reducible assumption | with_reducible refine Go.below_growBy' ?_ ?_ _ | with_reducible refine Below.alloc ?_ ?_ _ | with_reducible refine Below.setCell ?_ ?_ _ | with_reducible refine Below.drew ?_ | with_reducible refine Go.le_alloc ?_ | with_reducible refine Go.le_growBy ?_ | with_reducible refine Go.le_setCell ?_ | with_reducible refine Go.le_drew ?_ | omega | (dsimp only; omega)))⟩

theorem on_any (s : Sh) (i j : Int) (b : Bool) (w : World) (hb : onS s i j = b) (hs : OkS s) :
    Calls Tryd.prog 27 #[shV s, .agg #[.int .i64 i, .int .i64 j]] w fun e w' => e = .returned (.bool b) ∧ Below w.heap.size w w' := by
  obtain ⟨ax, ay, st, W, H, G⟩ := s
  obtain ⟨s0, s1, u0, u1, v0, v1, a0, a1, b0, b1⟩ := hs
  simp only [onS] at hb u0 u1 v0 v1
  obtain ⟨c1, h1⟩ : ∃ b, inR 0 i (W - 1) = b := ⟨_, rfl⟩
  obtain ⟨c2, h2⟩ : ∃ b, inR 0 j (H - 1) = b := ⟨_, rfl⟩
  rw [h1, h2] at hb
  subst hb
  replace h1 := Lib.hid h1
  replace h2 := Lib.hid h2
  cases c1
  · go_enter Tryd.func27, Tryd.ntmps27
    go_wp2_with (go_at_call 22; refine (within_eq (by first | with_reducible exact h1.out) _).mono ?_; rintro e w' ⟨rfl, rfl⟩)
    go_ret
    exact ⟨rfl, (by repeat' (first | with_reducible exact Below.refl _ _ | with_reducible exact Nat.le_refl _ | with_reducible assumption | with_reducible refine Go.below_growBy' ?_ ?_ _ | with_reducible refine Below.alloc ?_ ?_ _ | with_reducible refine Below.setCell ?_ ?_ _ | with_reducible refine Below.drew ?_ | with_reducible refine Go.le_alloc ?_ | with_reducible refine Go.le_growBy ?_ | with_reducible refine Go.le_setCell ?_ | with_reducible refine Go.le_drew ?_ | omega | (dsimp only; omega)))⟩
  · go_enter Tryd.func27, Tryd.ntmps27
    go_wp2_with (go_at_call 22; refine (within_eq (by first | with_reducible exact h1.out | with_reducible exact h2.out) _).mono ?_; rintro e w' ⟨rfl, rfl⟩)
    go_ret
    exact ⟨rfl, (by repeat' (first | with_reducible exact Below.refl _ _ | with_reducible exact Nat.le_refl _ | with_reducible assumption | with_reducible refine Go.below_growBy' ?_ ?_ _ | with_reducible refine Below.alloc ?_ ?_ _ | with_reducible refine Below.setCell ?_ ?_ _ | with_reducible refine Below.drew ?_ | with_reducible refine Go.le_alloc ?_ | with_reducible refine Go.le_growBy ?_ | with_reducible refine Go.le_setCell ?_ | with_reducible refine Go.le_drew ?_ | omega | (dsimp only; omega)))⟩

/-- what Of returns -/
def ofS (s : Sh) (x y : Int) : Int × Int × Bool :=
  if checkS s = 0 ∧ rightP x y = true ∧ onS s (dotX s x) (dotY s y) = true then (dotX s x, dotY s y, true) else (0, 0, false)

theorem check_eq {s : Sh} {r : Int} (hr : checkS s = r) (w : World) (f0 : fits s.ax) (f1 : fits s.ay) :
    Calls Tryd.prog 9 #[shV s] w fun e w' => e = .returned (.int .i64 r) ∧ Below w.heap.size w w' := by
  have h := check_any s w f0 f1
  rw [hr] at h
  exact h

set_option maxHeartbeats 1000000 in
theorem ofc_any (s : Sh) (x y : Int) (w : World) (f0 : fits s.ax) (f1 : fits s.ay) :
    Calls Tryd.prog 11 #[shV s, .agg #[.int .i64 x, .int .i64 y]] w fun e w' => e = .returned (.tuple #[.int .i64 (ofS s x y).1, .int .i64 (ofS s x y).2.1, .bool (ofS s x y).2.2]) ∧ Below w.heap.size w w' := by
  by_cases hc : checkS s = 0
  · have hs := okS_of hc
    obtain ⟨b1, h1⟩ : ∃ b, rightP x y = b := ⟨_, rfl⟩
    obtain ⟨i, hi⟩ : ∃ i, dotX s x = i := ⟨_, rfl⟩
    obtain ⟨j, hj⟩ : ∃ j, dotY s y = j := ⟨_, rfl⟩
    obtain ⟨b2, h2⟩ : ∃ b, onS s i j = b := ⟨_, rfl⟩
    have hr : ofS s x y = if b1 = true ∧ b2 = true then (i, j, true) else (0, 0, false) := by
      unfold ofS
      simp only [hc, h1, hi, hj, h2, true_and]
    rw [hr]
    clear hr
    replace hc := Lib.hid hc
    cases b1 with
    | false =>
      replace h1 := Lib.hid h1
      replace hi := Lib.hid hi
      replace hj := Lib.hid hj
      obtain ⟨ax, ay, st, W, H, G⟩ := s
      clear h2
      have hre : (if false = true ∧ b2 = true then (i, j, true) else (0, 0, false)) = ((0, 0, false) : Int × Int × Bool) := by simp
      rw [hre]
      clear hre
      go_enter Tryd.func11, Tryd.ntmps11
      go_wp2_with (first | (go_at_call 9; refine (check_eq hc.out _ f0 f1).mono ?_; rintro e w' ⟨rfl, hb_⟩; obtain ⟨p, rfl⟩ := grow_of_below hb_; clear hb_) | (go_at_call 23; refine (right_eq h1.out _).mono ?_; rintro e w' ⟨rfl, hb_⟩; obtain ⟨p, rfl⟩ := grow_of_below hb_; clear hb_))
      exact bodyPost_ret (v := .tuple #[.int .i64 0, .int .i64 0, .bool false]) (by simp [results, Tryd.results11, go_sem]) rfl ⟨rfl, (by repeat' (first | with_reducible exact Below.refl _ _ | with_reducible exact Nat.le_refl _ | with_reducible assumption | with_reducible refine Go.below_growBy' ?_ ?_ _ | with_reducible refine Below.alloc ?_ ?_ _ | with_reducible refine Below.setCell ?_ ?_ _ | with_reducible refine Below.drew ?_ | with_reducible refine Go.le_alloc ?_ | with_reducible refine Go.le_growBy ?_ | with_reducible refine Go.le_setCell ?_ | with_reducible refine Go.le_drew ?_ | omega | (dsimp only; omega)))⟩
    | true =>
      obtain ⟨⟨x0, x1⟩, y0, y1⟩ := rightP_iff.1 h1
      replace h1 := Lib.hid h1
      replace hi := Lib.hid hi
      replace hj := Lib.hid hj
      replace h2 := Lib.hid h2
      obtain ⟨ax, ay, st, W, H, G⟩ := s
      cases b2 <;>
      · go_enter Tryd.func11, Tryd.ntmps11
        go_wp2_with (first | (go_at_call 9; refine (check_eq hc.out _ f0 f1).mono ?_; rintro e w' ⟨rfl, hb_⟩; obtain ⟨p, rfl⟩ := grow_of_below hb_; clear hb_) | (go_at_call 23; refine (right_eq h1.out _).mono ?_; rintro e w' ⟨rfl, hb_⟩; obtain ⟨p, rfl⟩ := grow_of_below hb_; clear hb_) | (go_at_call 26; refine (of_any ⟨ax, ay, st, W, H, G⟩ x y i j _ hi.out hj.out hs (by omega) (by omega) (by omega) (by omega)).mono ?_; rintro e w' ⟨rfl, hb_⟩; obtain ⟨p, rfl⟩ := grow_of_below hb_; clear hb_) | (go_at_call 27; refine (on_any ⟨ax, ay, st, W, H, G⟩ i j _ _ h2.out hs).mono ?_; rintro e w' ⟨rfl, hb_⟩; obtain ⟨p, rfl⟩ := grow_of_below hb_; clear hb_))
        first
          | exact bodyPost_ret (v := .tuple #[.int .i64 0, .int .i64 0, .bool false]) (by simp [results, Tryd.results11, go_sem]) rfl ⟨rfl, (by repeat' (first | with_reducible exact Below.refl _ _ | with_reducible exact Nat.le_refl _ | with_reducible assumption | with_reducible refine Go.below_growBy' ?_ ?_ _ | with_reducible refine Below.alloc ?_ ?_ _ | with_reducible refine Below.setCell ?_ ?_ _ | with_reducible refine Below.drew ?_ | with_reducible refine Go.le_alloc ?_ | with_reducible refine Go.le_growBy ?_ | with_reducible refine Go.le_setCell ?_ | with_reducible refine Go.le_drew ?_ | omega | (dsimp only; omega)))⟩
          | skip
        all_goals
          first | with_reducible refine wp_region_grow2 (by kernel_rfl) (by kernel_rfl) ?_ | with_reducible refine wp_region_grow (by kernel_rfl) (by kernel_rfl) ?_
          repeat (first | go_big_quiet_step (fail) | quiet_step (fail))
          refine wpQuiet_nil ?_
          intro _ hw_
          obtain ⟨p, hw_⟩ := hw_
          subst hw_
          go_wp2_with fail
          exact bodyPost_ret (v := .tuple #[.int .i64 i, .int .i64 j, .bool true]) (by simp [results, Tryd.results11, go_sem]) rfl ⟨rfl, (by repeat' (first | with_reducible exact Below.refl _ _ | with_reducible exact Nat.le_refl _ | with_reducible assumption | with_reducible refine Go.below_growBy' ?_ ?_ _ | with_reducible refine Below.alloc ?_ ?_ _ | with_reducible refine Below.setCell ?_ ?_ _ | with_reducible refine Below.drew ?_ | with_reducible refine Go.le_alloc ?_ | with_reducible refine Go.le_growBy ?_ | with_reducible refine Go.le_setCell ?_ | with_reducible refine Go.le_drew ?_ | omega | (dsimp only; omega)))⟩
  · have hr : ofS s x y = (0, 0, false) := by unfold ofS; rw [if_neg (fun h => hc h.1)]
    rw [hr]
    clear hr
    obtain ⟨c, hcc⟩ : ∃ c, checkS s = c := ⟨_, rfl⟩
    rw [hcc] at hc
    replace hcc := Lib.hid hcc
    obtain ⟨ax, ay, st, W, H, G⟩ := s
    go_enter Tryd.func11, Tryd.ntmps11
    go_wp2_with (go_at_call 9; refine (check_eq hcc.out _ f0 f1).mono ?_; rintro e w' ⟨rfl, hb_⟩; obtain ⟨p, rfl⟩ := grow_of_below hb_; clear hb_)
    exact bodyPost_ret (v := .tuple #[.int .i64 0, .int .i64 0, .bool false]) (by simp [results, Tryd.results11, go_sem]) rfl ⟨rfl, (by repeat' (first | with_reducible exact Below.refl _ _ | with_reducible exact Nat.le_refl _ | with_reducible assumption | with_reducible refine Go.below_growBy' ?_ ?_ _ | with_reducible refine Below.alloc ?_ ?_ _ | with_reducible refine Below.setCell ?_ ?_ _ | with_reducible refine Below.drew ?_ | with_reducible refine Go.le_alloc ?_ | with_reducible refine Go.le_growBy ?_ | with_reducible refine Go.le_setCell ?_ | with_reducible refine Go.le_drew ?_ | omega | (dsimp only; omega)))⟩
end Go.Proofs.YtjfdbigkbgolmaaDoor

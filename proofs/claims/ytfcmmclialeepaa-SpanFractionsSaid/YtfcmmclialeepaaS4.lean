/-
  span.Check, Square, Scale, Band, and the law's helper doing.
-/
import Derived.Test.YtfcmmclialeepaaS3
namespace Go.Proofs.Ytfcmmclialeepaa
open Go.RowKit Go.Shelf
attribute [local go_sem] Oper.semAt_some

/-- Check's word on events behind a scale -/
def chk : Int → List Ev → Int
  | _, [] => 0
  | before, e :: l => if e.when_ < 1 ∨ 1024 < e.when_ then 3 else if e.when_ ≤ before then 21 else chk e.when_ l
def checkH (l : List Ev) : Int := if 200 < l.length then 2 else chk 0 l

theorem chk_at {l : List Ev} {k : Nat} (b : Int) (h : k < l.length) : chk b (l.drop k) = if l[k].when_ < 1 ∨ 1024 < l[k].when_ then 3 else if l[k].when_ ≤ b then 21 else chk l[k].when_ (l.drop (k + 1)) := by
  rw [List.drop_eq_getElem_cons h]
  rfl

theorem Evs.up {n₀ : Nat} {A B : World} {sv : Value} {l : List Ev} (h : Evs n₀ A sv l) (hb : Below n₀ A B) (hn : n₀ ≤ B.heap.size) : Evs B.heap.size B sv l := (h.below hb).mono hn

set_option maxRecDepth 100000 in
set_option maxHeartbeats 2000000 in
theorem check_any (d : Int) (a : Option Addr) (len cap : Nat) (evs : List Ev) (w : World) (hE : Evs w.heap.size w (.slice a len cap) evs) (r : Int) (hr : checkH evs = r) :
    Calls Try.prog 12 #[.agg #[.int .i64 d, .slice a len cap]] w fun e W' => e = .returned (.int .i64 r) ∧ Below w.heap.size w W' := by
  rcases hE with ⟨h1, rfl⟩ | ⟨b, off, cap', h1, hb, hl, hc⟩
  · cases h1
    obtain rfl : r = 0 := hr.symm
    go_enter Try.func12, Try.ntmps12
    go_wp2_with fail
    go_loopw [13] (fun i wr => i = .int .i64 0 ∧ Below w.heap.size w wr) (fun _ _ => 0)
    case atStart => exact ⟨rfl, (by repeat' (first | with_reducible exact Below.refl _ _ | with_reducible exact Nat.le_refl _ | with_reducible assumption | with_reducible refine Go.below_growBy' ?_ ?_ _ | with_reducible refine Below.alloc ?_ ?_ _ | with_reducible refine Below.setCell ?_ ?_ _ | with_reducible refine Below.drew ?_ | with_reducible refine Go.le_alloc ?_ | with_reducible refine Go.le_growBy ?_ | with_reducible refine Go.le_setCell ?_ | with_reducible refine Go.le_drew ?_ | omega | (dsimp only; omega)))⟩
    case round =>
      obtain ⟨rfl, hB⟩ := hrel
      go_wp2_with fail
      go_ret
      exact ⟨rfl, hB⟩
  · cases h1
    by_cases hm : 200 < evs.length
    · obtain rfl : r = 2 := by rw [← hr]; unfold checkH; rw [if_pos hm]
      have hm' : (200 : Int) < (evs.length : Int) := by omega
      go_enter Try.func12, Try.ntmps12
      go_wp2_with fail
      go_ret
      exact ⟨rfl, (by repeat' (first | with_reducible exact Below.refl _ _ | with_reducible exact Nat.le_refl _ | with_reducible assumption | with_reducible refine Go.below_growBy' ?_ ?_ _ | with_reducible refine Below.alloc ?_ ?_ _ | with_reducible refine Below.setCell ?_ ?_ _ | with_reducible refine Below.drew ?_ | with_reducible refine Go.le_alloc ?_ | with_reducible refine Go.le_growBy ?_ | with_reducible refine Go.le_setCell ?_ | with_reducible refine Go.le_drew ?_ | omega | (dsimp only; omega)))⟩
    · have hr0 : Hid (chk 0 (evs.drop 0) = r) := by
        have : checkH evs = r := hr
        unfold checkH at this
        rw [if_neg hm] at this
        exact (by simpa using this : chk 0 evs = r)
      clear hr
      have hm' : ¬ (200 : Int) < (evs.length : Int) := by omega
      go_enter Try.func12, Try.ntmps12
      go_wp2_with fail
      go_loopw [3, 13] (fun u i wr => ∃ (k : Nat) (be : Int), k ≤ evs.length ∧ 0 ≤ be ∧ be ≤ 1024 ∧ u = .int .i64 be ∧ i = .int .i64 k ∧ Hid (chk be (evs.drop k) = r) ∧ Below w.heap.size w wr)
        (fun _ i _ => evs.length - (intOf i).toNat)
      case atStart => exact ⟨0, 0, by omega, by omega, by omega, rfl, rfl, hr0, (by repeat' (first | with_reducible exact Below.refl _ _ | with_reducible exact Nat.le_refl _ | with_reducible assumption | with_reducible refine Go.below_growBy' ?_ ?_ _ | with_reducible refine Below.alloc ?_ ?_ _ | with_reducible refine Below.setCell ?_ ?_ _ | with_reducible refine Below.drew ?_ | with_reducible refine Go.le_alloc ?_ | with_reducible refine Go.le_growBy ?_ | with_reducible refine Go.le_setCell ?_ | with_reducible refine Go.le_drew ?_ | omega | (dsimp only; omega)))⟩
      case round =>
        obtain ⟨k, be, hk, be0, be1, rfl, rfl, hch, hB⟩ := hrel
        have hsW := hB.size
        by_cases hlt : k < evs.length
        · have hrow := (hc k hlt).below hB hb
          obtain ⟨r0, r1, r2, r3, r4⟩ := hrow
          have hat := chk_at be hlt
          generalize evs[k].when_ = t at *
          generalize evs[k].kind = t0 at *
          generalize evs[k].id = t2 at *
          generalize evs[k].other = t3 at *
          generalize evs[k].n = t4 at *
          have hat' : Hid (chk be (evs.drop k) = if t < 1 ∨ 1024 < t then 3 else if t ≤ be then 21 else chk t (evs.drop (k + 1))) := hat
          clear hat
          by_cases h1 : t < 1
          · obtain rfl : r = 3 := by rw [← hch.out, hat'.out, if_pos (.inl h1)]
            go_wp2_with fail
            go_ret
            exact ⟨rfl, (by repeat' (first | with_reducible exact Below.refl _ _ | with_reducible exact Nat.le_refl _ | with_reducible assumption | with_reducible refine Go.below_growBy' ?_ ?_ _ | with_reducible refine Below.alloc ?_ ?_ _ | with_reducible refine Below.setCell ?_ ?_ _ | with_reducible refine Below.drew ?_ | with_reducible refine Go.le_alloc ?_ | with_reducible refine Go.le_growBy ?_ | with_reducible refine Go.le_setCell ?_ | with_reducible refine Go.le_drew ?_ | omega | (dsimp only; omega)))⟩
          · by_cases h2 : 1024 < t
            · obtain rfl : r = 3 := by rw [← hch.out, hat'.out, if_pos (.inr h2)]
              go_wp2_with fail
              go_ret
              exact ⟨rfl, (by repeat' (first | with_reducible exact Below.refl _ _ | with_reducible exact Nat.le_refl _ | with_reducible assumption | with_reducible refine Go.below_growBy' ?_ ?_ _ | with_reducible refine Below.alloc ?_ ?_ _ | with_reducible refine Below.setCell ?_ ?_ _ | with_reducible refine Below.drew ?_ | with_reducible refine Go.le_alloc ?_ | with_reducible refine Go.le_growBy ?_ | with_reducible refine Go.le_setCell ?_ | with_reducible refine Go.le_drew ?_ | omega | (dsimp only; omega)))⟩
            · by_cases h3 : t ≤ be
              · obtain rfl : r = 21 := by rw [← hch.out, hat'.out, if_neg (by omega), if_pos h3]
                go_wp2_with fail
                go_ret
                exact ⟨rfl, (by repeat' (first | with_reducible exact Below.refl _ _ | with_reducible exact Nat.le_refl _ | with_reducible assumption | with_reducible refine Go.below_growBy' ?_ ?_ _ | with_reducible refine Below.alloc ?_ ?_ _ | with_reducible refine Below.setCell ?_ ?_ _ | with_reducible refine Below.drew ?_ | with_reducible refine Go.le_alloc ?_ | with_reducible refine Go.le_growBy ?_ | with_reducible refine Go.le_setCell ?_ | with_reducible refine Go.le_drew ?_ | omega | (dsimp only; omega)))⟩
              · have hn : Hid (chk t (evs.drop (k + 1)) = r) := by
                  have : chk be (evs.drop k) = r := hch.out
                  rw [hat'.out, if_neg (by omega), if_neg h3] at this
                  exact this
                clear hch hat'
                go_wp2_with fail
                go_roundw
                case rel => exact ⟨k + 1, t, by omega, by omega, by omega, rfl, by go_num, hn, (by repeat' (first | with_reducible exact Below.refl _ _ | with_reducible exact Nat.le_refl _ | with_reducible assumption | with_reducible refine Go.below_growBy' ?_ ?_ _ | with_reducible refine Below.alloc ?_ ?_ _ | with_reducible refine Below.setCell ?_ ?_ _ | with_reducible refine Below.drew ?_ | with_reducible refine Go.le_alloc ?_ | with_reducible refine Go.le_growBy ?_ | with_reducible refine Go.le_setCell ?_ | with_reducible refine Go.le_drew ?_ | omega | (dsimp only; omega)))⟩
                case measure => simp [intOf]; omega
        · obtain rfl : k = evs.length := by omega
          obtain rfl : r = 0 := by rw [← hch.out]; simp [chk]
          go_wp2_with fail
          go_ret
          exact ⟨rfl, hB⟩

set_option maxHeartbeats 1000000 in
theorem square_any (x y : Int) (w : World) (hx : -1073741824 < x ∧ x < 1073741824) (hy : -1073741824 < y ∧ y < 1073741824) (r : Int) (hr : x * x + y * y = r) :
    Calls Try.prog 9 #[.agg #[.int .i64 x, .int .i64 y]] w fun e W' => e = .returned (.int .i64 r) ∧ Below w.heap.size w W' := by
  obtain ⟨a0, a1⟩ := hx
  obtain ⟨b0, b1⟩ := hy
  obtain ⟨p0, p1⟩ := mul_small a0 a1 a0 a1
  obtain ⟨q0, q1⟩ := mul_small b0 b1 b0 b1
  go_enter Try.func9, Try.ntmps9
  go_wp2_with fail
  go_ret
  exact ⟨by first | rfl | rw [hr], (by repeat' (first | with_reducible exact Below.refl _ _ | with_reducible exact Nat.le_refl _ | with_reducible assumption | with_reducible refine Go.below_growBy' ?_ ?_ _ | with_reducible refine Below.alloc ?_ ?_ _ | with_reducible refine Below.setCell ?_ ?_ _ | with_reducible refine Below.drew ?_ | with_reducible refine Go.le_alloc ?_ | with_reducible refine Go.le_growBy ?_ | with_reducible refine Go.le_setCell ?_ | with_reducible refine Go.le_drew ?_ | omega | (dsimp only; omega)))⟩

def scaleN (n : Int) : Int := if n < 0 then 0 else if root n ≤ 1024 then root n else 1024
set_option maxHeartbeats 1000000 in
theorem scale_any (n : Int) (w : World) (hn : fits n) :
    Calls Try.prog 7 #[.int .i64 n] w fun e W' => e = .returned (.int .i64 (scaleN n)) ∧ Below w.heap.size w W' := by
  by_cases h : n < 0
  · have hs : scaleN n = 0 := by unfold scaleN; rw [if_pos h]
    rw [hs]
    clear hs
    go_enter Try.func7, Try.ntmps7
    go_wp2_with fail
    go_ret
    exact ⟨rfl, (by repeat' (first | with_reducible exact Below.refl _ _ | with_reducible exact Nat.le_refl _ | with_reducible assumption | with_reducible refine Go.below_growBy' ?_ ?_ _ | with_reducible refine Below.alloc ?_ ?_ _ | with_reducible refine Below.setCell ?_ ?_ _ | with_reducible refine Below.drew ?_ | with_reducible refine Go.le_alloc ?_ | with_reducible refine Go.le_growBy ?_ | with_reducible refine Go.le_setCell ?_ | with_reducible refine Go.le_drew ?_ | omega | (dsimp only; omega)))⟩
  · by_cases h2 : root n ≤ 1024
    · have hs : Hid (scaleN n = root n) := by unfold scaleN; rw [if_neg h, if_pos h2]; exact rfl
      go_enter Try.func7, Try.ntmps7
      go_wp2_with (go_at_call 17; refine (sqrt_any _ _ hn).mono ?_; rintro e w' ⟨rfl, hb_⟩; obtain ⟨p, rfl⟩ := grow_of_below hb_; clear hb_)
      go_ret
      rw [hs.out]
      exact ⟨by first | rfl | simp [h2] | (congr 1; simp; omega), (by repeat' (first | with_reducible exact Below.refl _ _ | with_reducible exact Nat.le_refl _ | with_reducible assumption | with_reducible refine Go.below_growBy' ?_ ?_ _ | with_reducible refine Below.alloc ?_ ?_ _ | with_reducible refine Below.setCell ?_ ?_ _ | with_reducible refine Below.drew ?_ | with_reducible refine Go.le_alloc ?_ | with_reducible refine Go.le_growBy ?_ | with_reducible refine Go.le_setCell ?_ | with_reducible refine Go.le_drew ?_ | omega | (dsimp only; omega)))⟩
    · have hs : Hid (scaleN n = 1024) := by unfold scaleN; rw [if_neg h, if_neg h2]; exact rfl
      go_enter Try.func7, Try.ntmps7
      go_wp2_with (go_at_call 17; refine (sqrt_any _ _ hn).mono ?_; rintro e w' ⟨rfl, hb_⟩; obtain ⟨p, rfl⟩ := grow_of_below hb_; clear hb_)
      go_ret
      rw [hs.out]
      exact ⟨by first | rfl | simp [h2] | (congr 1; simp; omega), (by repeat' (first | with_reducible exact Below.refl _ _ | with_reducible exact Nat.le_refl _ | with_reducible assumption | with_reducible refine Go.below_growBy' ?_ ?_ _ | with_reducible refine Below.alloc ?_ ?_ _ | with_reducible refine Below.setCell ?_ ?_ _ | with_reducible refine Below.drew ?_ | with_reducible refine Go.le_alloc ?_ | with_reducible refine Go.le_growBy ?_ | with_reducible refine Go.le_setCell ?_ | with_reducible refine Go.le_drew ?_ | omega | (dsimp only; omega)))⟩

def bandN (n : Int) : Int := if n ≤ 1024 then 0 else if n ≤ 16384 then 1 else if n ≤ 262144 then 2 else 3
set_option maxRecDepth 100000 in
set_option maxHeartbeats 1000000 in
theorem band_at (n r : Int) (w : World) (k1 k2 k3 : Bool) (h1 : decide (1024 < n) = k1) (h2 : decide (16384 < n) = k2) (h3 : decide (262144 < n) = k3) (hr : (k1, k2, k3, r) ∈ [(false, false, false, (0 : Int)), (true, false, false, 1), (true, true, false, 2), (true, true, true, 3)]) :
    Calls Try.prog 8 #[.int .i64 n] w fun e W' => e = .returned (.int .i64 r) ∧ Below w.heap.size w W' := by
  simp at hr
  rcases hr with ⟨rfl, rfl, rfl, rfl⟩ | ⟨rfl, rfl, rfl, rfl⟩ | ⟨rfl, rfl, rfl, rfl⟩ | ⟨rfl, rfl, rfl, rfl⟩ <;> simp only [decide_eq_true_eq, decide_eq_false_iff_not] at h1 h2 h3 <;>
  · go_enter Try.func8, Try.ntmps8
    go_wp2_with fail
    refine wp_loop_rounds 4 ?_
    rw [rounds_succ]
    go_wp2_with fail
    rw [rounds_succ]
    go_wp2_with fail
    rw [rounds_succ]
    go_wp2_with fail
    rw [rounds_succ]
    go_wp2_with fail
    go_ret
    exact ⟨rfl, (by repeat' (first | with_reducible exact Below.refl _ _ | with_reducible exact Nat.le_refl _ | with_reducible assumption | with_reducible refine Go.below_growBy' ?_ ?_ _ | with_reducible refine Below.alloc ?_ ?_ _ | with_reducible refine Below.setCell ?_ ?_ _ | with_reducible refine Below.drew ?_ | with_reducible refine Go.le_alloc ?_ | with_reducible refine Go.le_growBy ?_ | with_reducible refine Go.le_setCell ?_ | with_reducible refine Go.le_drew ?_ | omega | (dsimp only; omega)))⟩
theorem band_any (n : Int) (w : World) :
    Calls Try.prog 8 #[.int .i64 n] w fun e W' => e = .returned (.int .i64 (bandN n)) ∧ Below w.heap.size w W' := by
  refine band_at n _ w (decide (1024 < n)) (decide (16384 < n)) (decide (262144 < n)) rfl rfl rfl ?_
  unfold bandN
  by_cases a : n ≤ 1024
  · have a1 : ¬ 1024 < n := by omega
    have a2 : ¬ 16384 < n := by omega
    have a3 : ¬ 262144 < n := by omega
    simp [a, a1, a2, a3]
  · by_cases b : n ≤ 16384
    · have a1 : 1024 < n := by omega
      have a2 : ¬ 16384 < n := by omega
      have a3 : ¬ 262144 < n := by omega
      simp [a, b, a1, a2, a3]
    · by_cases c : n ≤ 262144
      · have a1 : 1024 < n := by omega
        have a2 : 16384 < n := by omega
        have a3 : ¬ 262144 < n := by omega
        simp [a, b, c, a1, a2, a3]
      · have a1 : 1024 < n := by omega
        have a2 : 16384 < n := by omega
        have a3 : 262144 < n := by omega
        simp [a, b, c, a1, a2, a3]
end Go.Proofs.Ytfcmmclialeepaa
